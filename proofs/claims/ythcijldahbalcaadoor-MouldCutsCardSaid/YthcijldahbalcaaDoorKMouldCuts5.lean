/- The law MouldCuts: its row and its card, proved; all that it rests on stands in the texts ahead of it. No conditions. -/
import Derived.Test.YthcijldahbalcaaDoorKMouldCuts4
import Derived.Shelf.Strconv.Itoa0
import Derived.Shelf.Strconv.Itoa1
import Derived.Shelf.LaysM
import Derived.Shelf.Strconv.Itoa2
import Derived.Shelf.Strconv.Itoa3
import Derived.Shelf.Strconv.Itoa4
import Derived.Shelf.Strconv.ParseIntEmpty
import Derived.Shelf.Strconv.Clone
import Derived.Shelf.Strconv.SyntaxError
import Derived.Shelf.LaysC
import Derived.Shelf.Strconv.ToError
import Derived.Shelf.Strconv.Lower
import Derived.Shelf.Strconv.ParseUint10
import Derived.Shelf.Strconv.ParseUint10Empty
import Derived.Shelf.Strconv.ParseUint10Any
import Derived.Shelf.Strconv.ParseInt10
import Derived.Shelf.Strconv.RangeError
import Derived.Shelf.Strconv.ToErrorRange
import Derived.Shelf.Strconv.ParseUintEmpty
import Derived.Shelf.Strconv.ParseUint10b64
import Derived.Shelf.Strconv.ParseUint10b32
import Derived.Shelf.Strconv.ParseUint10b16
import Derived.Shelf.Strconv.ParseUint10b8
import Derived.Shelf.Strconv.ParseUint10At
import Derived.Shelf.Strconv.ParseInt10At64
import Derived.Shelf.Strconv.ParseInt10At32
import Derived.Shelf.Strconv.ParseInt10At16
import Derived.Shelf.Strconv.ParseInt10At8
import Derived.Shelf.Strconv.ParseInt10All
import Derived.Shelf.Strconv.ParseIntPublic10
import Derived.Shelf.Strconv.ErrVarParseInt
import Derived.Shelf.GgClosure.StringsIndexFunc
import Derived.Ground.GgwProg
import Derived.Shelf.GgClosure.StringsIndexFuncTop
import Derived.Shelf.GgClosure.StringsRunes
import Derived.Shelf.Strings.Prefix
import Derived.Shelf.Strings.FuncGrows
import Derived.Shelf.Slices.Turned
import Derived.Shelf.Slices.Reverse
import Derived.Ground.Names2Prog
import Derived.Shelf.Slices.Clone
import Derived.Shelf.Slices.Cells
import Derived.Ground.SlgnProg
import Derived.Shelf.SlicesE.Clone
import Derived.Test.YthcijldahbalcaaDoorProg
import Derived.Lib.AtoiErrMem
import Derived.Lib.AppendIntMem
import Derived.Test.YthcijldahbalcaaDoorRows
import Derived.Stop.LaidErr
import Derived.Lib.LaidTab
import Derived.Test.YthcijldahbalcaaDoorTie
import Derived.Test.YthcijldahbalcaaDoorCards
import Derived.WideLaws
import Derived.ProofKit
import Derived.OpenShut
import Derived.ShutString
import Derived.ChangeOld
import Derived.SizedLaws
import Derived.ChangeSlices
import Derived.Handed
import Derived.MakeChecks
import Derived.Lay
import Derived.LaidOnce
import Derived.SevenTiedAt
import Derived.Deep.Slices
set_option linter.unusedVariables false
set_option linter.unusedSimpArgs false
section
namespace Go.Proofs
open Go.Shelf
def Tryd.laysM173_ren : Go.Shelf.Ren := ⟨fun | 173 => 76 | 246 => 106 | 283 => 123 | 284 => 124 | 285 => 125 | 286 => 126 | 129 => 143 | 317 => 142 | 318 => 144 | 319 => 145 | 320 => 146 | 337 => 157 | 338 => 158 | n => n, fun | 2 => 2 | 3 => 3 | 9 => 9 | 4 => 4 | 171 => 142 | 0 => 0 | 53 => 143 | 37 => 118 | 5 => 5 | 173 => 146 | 212 => 161 | 51 => 162 | 20 => 20 | 213 => 163 | 46 => 123 | 232 => 177 | 233 => 178 | n => n, fun | 17 => 0 | 18 => 3 | 19 => 4 | n => n⟩
theorem Tryd.laysM173 : Go.Proofs.LaysM.n173 Tryd.prog Tryd.laysM173_ren := {
  mixed := by kernel_rfl
  f129 := Tryd.func143.trans (congrArg some (by kernel_rfl))
  f173 := Tryd.func76.trans (congrArg some (by kernel_rfl))
  f246 := Tryd.func106.trans (congrArg some (by kernel_rfl))
  f283 := Tryd.func123.trans (congrArg some (by kernel_rfl))
  f284 := Tryd.func124.trans (congrArg some (by kernel_rfl))
  f285 := Tryd.func125.trans (congrArg some (by kernel_rfl))
  f286 := Tryd.func126.trans (congrArg some (by kernel_rfl))
  f317 := Tryd.func142.trans (congrArg some (by kernel_rfl))
  f318 := Tryd.func144.trans (congrArg some (by kernel_rfl))
  f319 := Tryd.func145.trans (congrArg some (by kernel_rfl))
  f320 := Tryd.func146.trans (congrArg some (by kernel_rfl))
  f337 := Tryd.func157.trans (congrArg some (by kernel_rfl))
  f338 := Tryd.func158.trans (congrArg some (by kernel_rfl))
  t0 := Tryd.underlying0
  a0 := Tryd.isAgg0
  z0 := Tryd.sizeOf0
  v0 := Tryd.zeroValue0
  t2 := Tryd.underlying2
  a2 := Tryd.isAgg2
  z2 := Tryd.sizeOf2
  v2 := Tryd.zeroValue2
  t3 := Tryd.underlying3
  a3 := Tryd.isAgg3
  z3 := Tryd.sizeOf3
  v3 := Tryd.zeroValue3
  t4 := Tryd.underlying4
  a4 := Tryd.isAgg4
  z4 := Tryd.sizeOf4
  v4 := Tryd.zeroValue4
  t5 := Tryd.underlying5
  a5 := Tryd.isAgg5
  z5 := Tryd.sizeOf5
  v5 := Tryd.zeroValue5
  t9 := Tryd.underlying9
  a9 := Tryd.isAgg9
  z9 := Tryd.sizeOf9
  v9 := Tryd.zeroValue9
  t20 := Tryd.underlying20
  a20 := Tryd.isAgg20
  z20 := Tryd.sizeOf20
  v20 := Tryd.zeroValue20
  t37 := Tryd.underlying118
  a37 := Tryd.isAgg118
  z37 := Tryd.sizeOf118
  v37 := Tryd.zeroValue118
  t46 := Tryd.underlying123
  a46 := Tryd.isAgg123
  z46 := Tryd.sizeOf123
  v46 := Tryd.zeroValue123
  t51 := Tryd.underlying162
  a51 := Tryd.isAgg162
  z51 := Tryd.sizeOf162
  v51 := Tryd.zeroValue162
  t53 := Tryd.underlying143
  a53 := Tryd.isAgg143
  z53 := Tryd.sizeOf143
  v53 := Tryd.zeroValue143
  t171 := Tryd.underlying142
  a171 := Tryd.isAgg142
  z171 := Tryd.sizeOf142
  v171 := Tryd.zeroValue142
  t173 := Tryd.underlying146
  a173 := Tryd.isAgg146
  z173 := Tryd.sizeOf146
  v173 := Tryd.zeroValue146
  t212 := Tryd.underlying161
  a212 := Tryd.isAgg161
  z212 := Tryd.sizeOf161
  v212 := Tryd.zeroValue161
  t213 := Tryd.underlying163
  a213 := Tryd.isAgg163
  z213 := Tryd.sizeOf163
  t232 := Tryd.underlying177
  a232 := Tryd.isAgg177
  z232 := Tryd.sizeOf177
  v232 := Tryd.zeroValue177
  t233 := Tryd.underlying178
  a233 := Tryd.isAgg178
  z233 := Tryd.sizeOf178
  v233 := Tryd.zeroValue178
  g17 := by kernel_rfl
  g18 := by kernel_rfl
  g19 := by kernel_rfl
  i0 := by kernel_rfl
  i2 := by kernel_rfl
  i3 := by kernel_rfl
  i4 := by kernel_rfl
  i5 := by kernel_rfl
  i9 := by kernel_rfl
  i20 := by kernel_rfl
  i37 := by kernel_rfl
  i46 := by kernel_rfl
  i51 := by kernel_rfl
  i53 := by kernel_rfl
  i171 := by kernel_rfl
  i173 := by kernel_rfl
  i212 := by kernel_rfl
  i232 := by kernel_rfl
  i233 := by kernel_rfl
  m17 := by kernel_rfl
  m18 := by kernel_rfl
  m19 := by kernel_rfl }
open Go.RowKit Go.Sort Go.Lib in
theorem Tryd.strconv_FormatInt_10 (n : Int) (h0 : -9223372036854775808 ≤ n) (h1 : n ≤ 9223372036854775807) (w : World) (htab : Lib.TabIs Tryd.prog w "internal/strconv.uint64pow10" .u64 Lib.pow10Tab) :
    Calls Tryd.prog 76 #[.int .i64 n, .int .i64 10] w fun e w' => e = .returned (.string ⟨(Lib.itoa n).toArray⟩) ∧ ∃ k os, w' = grow (w.drewN k) os := Any.strconv_FormatInt_10 Tryd.laysM173 n h0 h1 w htab
def Tryd.laysC174_ren : Go.Shelf.Ren := ⟨fun | 174 => 96 | 247 => 115 | 245 => 116 | 287 => 130 | 279 => 131 | 280 => 132 | 281 => 133 | 282 => 134 | 321 => 147 | 322 => 148 | 316 => 149 | 171 => 151 | 205 => 150 | 243 => 159 | 246 => 106 | 283 => 123 | 284 => 124 | 285 => 125 | 286 => 126 | 129 => 143 | 317 => 142 | 318 => 144 | 319 => 145 | 320 => 146 | 337 => 157 | 338 => 158 | n => n, fun | 9 => 9 | 3 => 3 | 2 => 2 | 75 => 115 | 85 => 116 | 4 => 4 | 167 => 151 | 5 => 5 | 53 => 143 | 175 => 152 | 46 => 123 | 168 => 154 | 37 => 118 | 0 => 0 | 210 => 167 | 21 => 21 | 127 => 172 | 145 => 175 | 143 => 173 | 171 => 142 | 173 => 146 | 212 => 161 | 51 => 162 | 20 => 20 | 213 => 163 | 232 => 177 | 233 => 178 | 80 => 179 | n => n, fun | 15 => 1 | 16 => 2 | 17 => 0 | 18 => 3 | 19 => 4 | n => n⟩
theorem Tryd.laysC174 : Go.Proofs.LaysC.n174 Tryd.prog Tryd.laysC174_ren := {
  mixed := by kernel_rfl
  f129 := Tryd.func143.trans (congrArg some (by kernel_rfl))
  f171 := Tryd.func151.trans (congrArg some (by kernel_rfl))
  f174 := Tryd.func96.trans (congrArg some (by kernel_rfl))
  f205 := Tryd.func150.trans (congrArg some (by kernel_rfl))
  f243 := Tryd.func159.trans (congrArg some (by kernel_rfl))
  f245 := Tryd.func116.trans (congrArg some (by kernel_rfl))
  f246 := Tryd.func106.trans (congrArg some (by kernel_rfl))
  f247 := Tryd.func115.trans (congrArg some (by kernel_rfl))
  f279 := Tryd.func131.trans (congrArg some (by kernel_rfl))
  f280 := Tryd.func132.trans (congrArg some (by kernel_rfl))
  f281 := Tryd.func133.trans (congrArg some (by kernel_rfl))
  f282 := Tryd.func134.trans (congrArg some (by kernel_rfl))
  f283 := Tryd.func123.trans (congrArg some (by kernel_rfl))
  f284 := Tryd.func124.trans (congrArg some (by kernel_rfl))
  f285 := Tryd.func125.trans (congrArg some (by kernel_rfl))
  f286 := Tryd.func126.trans (congrArg some (by kernel_rfl))
  f287 := Tryd.func130.trans (congrArg some (by kernel_rfl))
  f316 := Tryd.func149.trans (congrArg some (by kernel_rfl))
  f317 := Tryd.func142.trans (congrArg some (by kernel_rfl))
  f318 := Tryd.func144.trans (congrArg some (by kernel_rfl))
  f319 := Tryd.func145.trans (congrArg some (by kernel_rfl))
  f320 := Tryd.func146.trans (congrArg some (by kernel_rfl))
  f321 := Tryd.func147.trans (congrArg some (by kernel_rfl))
  f322 := Tryd.func148.trans (congrArg some (by kernel_rfl))
  f337 := Tryd.func157.trans (congrArg some (by kernel_rfl))
  f338 := Tryd.func158.trans (congrArg some (by kernel_rfl))
  t0 := Tryd.underlying0
  a0 := Tryd.isAgg0
  z0 := Tryd.sizeOf0
  v0 := Tryd.zeroValue0
  t2 := Tryd.underlying2
  a2 := Tryd.isAgg2
  z2 := Tryd.sizeOf2
  v2 := Tryd.zeroValue2
  t3 := Tryd.underlying3
  a3 := Tryd.isAgg3
  z3 := Tryd.sizeOf3
  v3 := Tryd.zeroValue3
  t4 := Tryd.underlying4
  a4 := Tryd.isAgg4
  z4 := Tryd.sizeOf4
  v4 := Tryd.zeroValue4
  t5 := Tryd.underlying5
  a5 := Tryd.isAgg5
  z5 := Tryd.sizeOf5
  v5 := Tryd.zeroValue5
  t9 := Tryd.underlying9
  a9 := Tryd.isAgg9
  z9 := Tryd.sizeOf9
  v9 := Tryd.zeroValue9
  t20 := Tryd.underlying20
  a20 := Tryd.isAgg20
  z20 := Tryd.sizeOf20
  v20 := Tryd.zeroValue20
  t21 := Tryd.underlying21
  a21 := Tryd.isAgg21
  z21 := Tryd.sizeOf21
  v21 := Tryd.zeroValue21
  t37 := Tryd.underlying118
  a37 := Tryd.isAgg118
  z37 := Tryd.sizeOf118
  v37 := Tryd.zeroValue118
  t46 := Tryd.underlying123
  a46 := Tryd.isAgg123
  z46 := Tryd.sizeOf123
  v46 := Tryd.zeroValue123
  t51 := Tryd.underlying162
  a51 := Tryd.isAgg162
  z51 := Tryd.sizeOf162
  v51 := Tryd.zeroValue162
  t53 := Tryd.underlying143
  a53 := Tryd.isAgg143
  z53 := Tryd.sizeOf143
  v53 := Tryd.zeroValue143
  t75 := Tryd.underlying115
  a75 := Tryd.isAgg115
  z75 := Tryd.sizeOf115
  v75 := Tryd.zeroValue115
  t85 := Tryd.underlying116
  a85 := Tryd.isAgg116
  z85 := Tryd.sizeOf116
  v85 := Tryd.zeroValue116
  t127 := Tryd.underlying172
  a127 := Tryd.isAgg172
  z127 := Tryd.sizeOf172
  v127 := Tryd.zeroValue172
  t143 := Tryd.underlying173
  a143 := Tryd.isAgg173
  z143 := Tryd.sizeOf173
  v143 := Tryd.zeroValue173
  t145 := Tryd.underlying175
  a145 := Tryd.isAgg175
  z145 := Tryd.sizeOf175
  v145 := Tryd.zeroValue175
  t167 := Tryd.underlying151
  a167 := Tryd.isAgg151
  z167 := Tryd.sizeOf151
  v167 := Tryd.zeroValue151
  t168 := Tryd.underlying154
  a168 := Tryd.isAgg154
  z168 := Tryd.sizeOf154
  v168 := Tryd.zeroValue154
  t171 := Tryd.underlying142
  a171 := Tryd.isAgg142
  z171 := Tryd.sizeOf142
  v171 := Tryd.zeroValue142
  t173 := Tryd.underlying146
  a173 := Tryd.isAgg146
  z173 := Tryd.sizeOf146
  v173 := Tryd.zeroValue146
  t175 := Tryd.underlying152
  a175 := Tryd.isAgg152
  z175 := Tryd.sizeOf152
  v175 := Tryd.zeroValue152
  t210 := Tryd.underlying167
  a210 := Tryd.isAgg167
  z210 := Tryd.sizeOf167
  v210 := Tryd.zeroValue167
  t212 := Tryd.underlying161
  a212 := Tryd.isAgg161
  z212 := Tryd.sizeOf161
  v212 := Tryd.zeroValue161
  t213 := Tryd.underlying163
  a213 := Tryd.isAgg163
  z213 := Tryd.sizeOf163
  t232 := Tryd.underlying177
  a232 := Tryd.isAgg177
  z232 := Tryd.sizeOf177
  v232 := Tryd.zeroValue177
  t233 := Tryd.underlying178
  a233 := Tryd.isAgg178
  z233 := Tryd.sizeOf178
  v233 := Tryd.zeroValue178
  g15 := by kernel_rfl
  g16 := by kernel_rfl
  g17 := by kernel_rfl
  g18 := by kernel_rfl
  g19 := by kernel_rfl
  t80 := Tryd.underlying179
  a80 := Tryd.isAgg179
  z80 := Tryd.sizeOf179
  v80 := Tryd.zeroValue179
  i0 := by kernel_rfl
  i2 := by kernel_rfl
  i3 := by kernel_rfl
  i4 := by kernel_rfl
  i5 := by kernel_rfl
  i9 := by kernel_rfl
  i20 := by kernel_rfl
  i21 := by kernel_rfl
  i37 := by kernel_rfl
  i46 := by kernel_rfl
  i51 := by kernel_rfl
  i53 := by kernel_rfl
  i75 := by kernel_rfl
  i80 := by kernel_rfl
  i85 := by kernel_rfl
  i127 := by kernel_rfl
  i143 := by kernel_rfl
  i145 := by kernel_rfl
  i167 := by kernel_rfl
  i168 := by kernel_rfl
  i171 := by kernel_rfl
  i173 := by kernel_rfl
  i175 := by kernel_rfl
  i210 := by kernel_rfl
  i212 := by kernel_rfl
  i232 := by kernel_rfl
  i233 := by kernel_rfl
  m15 := by kernel_rfl
  m16 := by kernel_rfl
  m17 := by kernel_rfl
  m18 := by kernel_rfl
  m19 := by kernel_rfl
  c0 := by kernel_rfl
  c2 := by kernel_rfl
  c3 := by kernel_rfl
  c4 := by kernel_rfl
  c5 := by kernel_rfl
  c9 := by kernel_rfl
  c20 := by kernel_rfl
  c21 := by kernel_rfl
  c37 := by kernel_rfl
  c46 := by kernel_rfl
  c51 := by kernel_rfl
  c53 := by kernel_rfl
  c75 := by kernel_rfl
  c80 := by kernel_rfl
  c85 := by kernel_rfl
  c127 := by kernel_rfl
  c143 := by kernel_rfl
  c145 := by kernel_rfl
  c167 := by kernel_rfl
  c168 := by kernel_rfl
  c171 := by kernel_rfl
  c173 := by kernel_rfl
  c175 := by kernel_rfl
  c210 := by kernel_rfl
  c212 := by kernel_rfl
  c213 := by kernel_rfl
  c232 := by kernel_rfl
  c233 := by kernel_rfl }
open Go.RowKit in
theorem Tryd.strconv_ParseInt_10_at64_ok (s : ByteArray) (hmax : s.size ≤ 9223372036854775806) (v : Int) (h : Lib.parseIntB 64 s.data.toList = .ok v) (w : World) :
    Calls Tryd.prog 96 #[.string s, .int .i64 10, .int .i64 64] w fun e w' => e = .returned (.tuple #[.int .i64 v, .nilIface]) ∧ (w' = w ∨ ∃ t, w' = Lib.bytesWorld w 5 t) := Any.strconv_ParseInt_10_at64_ok Tryd.laysC174 s hmax v h w
open Go.RowKit in
theorem Tryd.strconv_ParseInt_10_at64_range_var (s : ByteArray) (hlim : s.size ≤ 281474976710656) (h : Lib.parseIntB 64 s.data.toList = .range) (tp : TypeId) (p : Value) (w : World) (hvar : w.var? Tryd.prog "strconv.ErrRange" = some #[.iface tp p]) :
    Calls Tryd.prog 96 #[.string s, .int .i64 10, .int .i64 64] w fun e w' => ∃ N, e = .returned (.tuple #[.int .i64 (Lib.intSat 64 s.data.toList), .iface 154 (.pointer (some ⟨N, 0, none⟩))]) ∧ w.heap.size ≤ N ∧ w'.heap[N]? = some (.cells #[.string ⟨#[80, 97, 114, 115, 101, 73, 110, 116]⟩, .string s, .iface tp p] 167 (0, 0)) ∧ Below w.heap.size w w' := Any.strconv_ParseInt_10_at64_range_var Tryd.laysC174 s hlim h tp p w hvar
end Go.Proofs
end
section
namespace Go.Proofs.YthcijldahbalcaaDoor.Q
open Go Go.PM Go.RowKit
set_option maxRecDepth 100000
set_option maxHeartbeats 4000000
theorem var_of {w : World} {n : String} {g : Nat} {cs : Array Value} (hn : Tryd.prog.globalNamed n = some g) (h : ∃ e z, w.heap[g]? = some (.cells cs e z)) : w.var? Tryd.prog n = some cs := by
  obtain ⟨e, z, h⟩ := h
  unfold World.var?
  rw [hn]
  show (match w.heap[g]? with | some (.cells cs _ _) => some cs | _ => none) = _
  rw [h]
theorem tab_of {w : World} {N : Nat → Prop} (hG : GlobRel C w N) : Lib.TabIs Tryd.prog w "internal/strconv.uint64pow10" .u64 Lib.pow10Tab := by
  obtain ⟨_, o, ho, e, z, rfl⟩ := hG.fix 0 _ rfl
  exact var_of (by kernel_rfl) ⟨e, z, ho⟩
theorem rng_of {w : World} {N : Nat → Prop} (hG : GlobRel C w N) : ∃ tp p, w.var? Tryd.prog "strconv.ErrRange" = some #[.iface tp p] := by
  obtain ⟨_, o, ho, tp, p, e, z, rfl⟩ := hG.fix 2 _ rfl
  exact ⟨tp, p, var_of (by kernel_rfl) ⟨e, z, ho⟩⟩
theorem fmt_ok (args : List DV) (v : DV) (hs' : List (Option Blk)) (hx : fmtX args = some (v, hs')) : CallOK C 76 args [] v hs' := by
  unfold fmtX at hx
  split at hx
  · rename_i n b
    split at hx
    · rename_i hc
      obtain ⟨rfl, h0, h1⟩ := hc
      cases hx
      refine ext_below (fun w N vals hG hv => ?_) rfl
      obtain ⟨x0, r0, rfl, rfl, hv⟩ := hv
      obtain ⟨x1, r1, rfl, rfl, hv⟩ := hv
      obtain rfl : r1 = [] := hv
      refine (Tryd.strconv_FormatInt_10 n h0 h1 w (tab_of hG)).mono ?_
      rintro e w' ⟨rfl, k, os, rfl⟩
      exact ⟨_, rfl, Lib.below_grow _ _ (Nat.le_refl _) _ _, fun w N φ => ⟨_, rfl, by rw [itoa_eq, intF_eq n h0 h1]⟩⟩
    · cases hx
  · cases hx
theorem parse_ok (args : List DV) (v : DV) (hs' : List (Option Blk)) (hx : parseX 154 args = some (v, hs')) : CallOK C 96 args [] v hs' := by
  unfold parseX at hx
  split at hx
  · rename_i s b z
    split at hx
    · rename_i hc
      obtain ⟨rfl, rfl, hs⟩ := hc
      split at hx
      · rename_i n hp
        cases hx
        refine ext_below (fun w N vals hG hv => ?_) rfl
        obtain ⟨x0, r0, rfl, ⟨t, rfl, ht⟩, hv⟩ := hv
        obtain ⟨x1, r1, rfl, rfl, hv⟩ := hv
        obtain ⟨x2, r2, rfl, rfl, hv⟩ := hv
        obtain rfl : r2 = [] := hv
        have hsz : t.size = s.length := by rw [← ht]; rfl
        refine (Tryd.strconv_ParseInt_10_at64_ok t (by omega) n (by rw [ht]; exact hp) w).mono ?_
        rintro e w' ⟨rfl, hw⟩
        refine ⟨_, rfl, ?_, fun w N φ => ⟨_, rfl, _, _, rfl, rfl, _, _, rfl, rfl, rfl⟩⟩
        rcases hw with rfl | ⟨t, rfl⟩
        · exact Below.refl _ _
        · exact Lib.bytesWorld_below _ _ _
      · rename_i hp
        cases hx
        refine ext_below (fun w N vals hG hv => ?_) rfl
        obtain ⟨x0, r0, rfl, ⟨t, rfl, ht⟩, hv⟩ := hv
        obtain ⟨x1, r1, rfl, rfl, hv⟩ := hv
        obtain ⟨x2, r2, rfl, rfl, hv⟩ := hv
        obtain rfl : r2 = [] := hv
        have hsz : t.size = s.length := by rw [← ht]; rfl
        obtain ⟨tp, p, hr⟩ := rng_of hG
        refine (Tryd.strconv_ParseInt_10_at64_range_var t (by omega) (by rw [ht]; exact hp) tp p w hr).mono ?_
        rintro e w' ⟨N1, rfl, _, _, hb⟩
        refine ⟨_, rfl, hb, fun w N φ => ⟨_, rfl, _, _, rfl, by rw [ht]; rfl, _, _, rfl, ⟨_, rfl, rfl⟩, rfl⟩⟩
      · cases hx
    · cases hx
  · cases hx
theorem ok : CfgOK C := { body := ok0.body, mixed := ok0.mixed, seqs := ok0.seqs, code := ok0.code, ext := (by
  intro g x h args v hs' hx
  change (if g = 74 then some (cloneX 3 1 8) else if g = 77 then some (cloneX 9 1 16) else if g = 76 then some fmtX else if g = 96 then some (parseX 154) else none) = some x at h
  split at h
  · rename_i hg
    subst hg
    cases h
    exact cloneI_ok _ _ _ hx
  · split at h
    · rename_i _ hg
      subst hg
      cases h
      exact cloneS_ok _ _ _ hx
    · split at h
      · rename_i _ _ hg
        subst hg
        cases h
        exact fmt_ok _ _ _ hx
      · split at h
        · rename_i _ _ _ hg
          subst hg
          cases h
          exact parse_ok _ _ _ hx
        · cases h) }
end Go.Proofs.YthcijldahbalcaaDoor.Q
end
section
namespace Go.Proofs.YthcijldahbalcaaDoor.Q
open Go Go.PM Go.RowKit
set_option linter.unusedVariables false
theorem tabE : (Rows.laid_internal_strconv_uint64pow10 : DataW Unit) = Lib.tabData .u64 Lib.pow10Tab := by kernel_rfl
theorem starE : "*" ++ "errors.errorString" = "*errors.errorString" := by decide
theorem rowE (u : TypeId) (h : Tryd.prog.typeName? 3 u = some "*errors.errorString") : u = 173 :=
  typeName_ptr_named (nm := "errors.errorString") (by rw [starE]; kernel_rfl) (by kernel_rfl) (by decide) u (by rw [starE]; exact h)
theorem of_var {w : World} {n : String} {g : Nat} {cs : Array Value} (hn : Tryd.prog.globalNamed n = some g) (h : w.var? Tryd.prog n = some cs) : ∃ o, w.heap[g]? = some o ∧ ∃ e z, o = .cells cs e z := by
  unfold World.var? at h
  rw [hn] at h
  change (match w.heap[g]? with | some (.cells cs _ _) => some cs | _ => none) = some cs at h
  split at h
  · rename_i c e z ho
    cases h
    exact ⟨_, ho, e, z, rfl⟩
  · cases h
theorem globs {W : World} (h : laidMet Tryd.prog [("math/bits.deBruijn32tab", Rows.laid_math_bits_deBruijn32tab), ("math/bits.deBruijn64tab", Rows.laid_math_bits_deBruijn64tab), ("internal/strconv.uint64pow10", Rows.laid_internal_strconv_uint64pow10), ("strconv.ErrRange", Rows.laid_strconv_ErrRange), ("strconv.ErrSyntax", Rows.laid_strconv_ErrSyntax)] W) : GlobRel C W (fun _ => False) := by
  have h2 := h.tail.tail
  rw [tabE] at h2
  have ht := Lib.tabIs_of_head (g := 0) (t := 161) (e := 143) (n := 20) (by kernel_rfl) (by kernel_rfl) (by kernel_rfl) (by kernel_rfl) (by kernel_rfl) (by kernel_rfl) h2
  obtain ⟨a, s, hv, _⟩ := laid_sentinel (g := 2) (ti := 115) (tp := 173) (te := 175) (ts := 9) h.tail.tail.tail (by kernel_rfl) (by kernel_rfl) Tryd.underlying115 rowE (by kernel_rfl) Tryd.underlying175 (by kernel_rfl) (by kernel_rfl) (by kernel_rfl) (by kernel_rfl) (by kernel_rfl)
  refine ⟨fun g d hd => (by cases hd), fun g q hq => ?_⟩
  change (if g = 0 then some (fun o => ∃ e z, o = Obj.cells (Lib.pow10Tab.map fun n => Value.int .u64 n).toArray e z) else if g = 2 then some (fun o => ∃ tp p e z, o = Obj.cells #[.iface tp p] e z) else none) = some q at hq
  split at hq
  · rename_i hg
    subst hg
    cases hq
    obtain ⟨o, ho, hx⟩ := of_var (by kernel_rfl) ht
    exact ⟨fun h => h, o, ho, hx⟩
  · split at hq
    · rename_i _ hg
      subst hg
      cases hq
      obtain ⟨o, ho, e, z, hx⟩ := of_var (by kernel_rfl) hv
      exact ⟨fun h => h, o, ho, _, _, e, z, hx⟩
    · cases hq
end Go.Proofs.YthcijldahbalcaaDoor.Q
end
section
namespace Go.Proofs.YthcijldahbalcaaDoor.Q
open Go Go.PM Go.RowKit
set_option maxRecDepth 100000
set_option maxHeartbeats 2000000
theorem shown14 : C.run (.call 40 [] []) = some (.done (.bool true) []) := run_of_runN C 300 _ _ (by kernel_rfl)
theorem few_sm {s : List Int} {l : List Tx} (h : few4 s l = true) : SmV (s, l) := by
  unfold few4 fewF at h
  simp only [Bool.and_eq_true, decide_eq_true_eq] at h
  refine ⟨by dsimp only; omega, by dsimp only; omega, fun x hx => ?_⟩
  have h1 : x ∈ l.take 301 := by
    rw [List.take_of_length_le (by omega)]
    exact hx
  have := List.all_eq_true.1 h.1 x h1
  simp at this
  omega
def noV : VP := ([], [])
def jn (v w : VP) : VP × Int := if (vmayF v.1 v.2 && vmayF w.1 w.2) = true then
    (if (rowS v.1).tail.length ≠ (rowS w.1).tail.length then (noV, 3) else if (rowS v.1).tail ≠ (rowS w.1).tail then (noV, 4) else
      if (sizeF (((rowS v.1).headD 1 + (rowS w.1).headD 1) :: (rowS v.1).tail)).2 ≠ 0 then (noV, (sizeF (((rowS v.1).headD 1 + (rowS w.1).headD 1) :: (rowS v.1).tail)).2) else ((((rowS v.1).headD 1 + (rowS w.1).headD 1) :: (rowS v.1).tail, v.2 ++ w.2), 0))
  else (noV, 1)
theorem MJoinT (v w : VP) (hv : SmV v) (hw : SmV w) : C.run (.call 48 [vE v, vE w] []) = some (.done (.tuple [vE (jn v w).1, .int .i64 (jn v w).2]) []) := by
  obtain ⟨s, l⟩ := v
  obtain ⟨t, m⟩ := w
  unfold jn
  by_cases h : (vmayF s l && vmayF t m) = true
  · rw [if_pos h]
    rw [Bool.and_eq_true] at h
    have := MJoin s t l m h.1 h.2
    unfold joinR joinP at this
    refine this.trans ?_
    dsimp only
    split
    · rfl
    · split
      · rfl
      · split
        · rfl
        · rfl
  · rw [if_neg h]
    exact MJoin_no s t l m hv hw (by simpa using h)
theorem rowS_head (s : List Int) : (rowS s).headD 1 = s.headD 1 := by cases s <;> rfl
theorem rowS_prod {s : List Int} {l : List Tx} (ok : VOK s l) : (l.length : Int) = (rowS s).headD 1 * prodI (rowS s).tail := by
  have := ok.len
  cases s with
  | nil => simpa [rowS, prodI] using this
  | cons a t => exact this
structure JOK (v w : VP) (r : VP) : Prop where
  ok1 : VOK v.1 v.2
  ok2 : VOK w.1 w.2
  tl : (rowS v.1).tail = (rowS w.1).tail
  eq : r = (((rowS v.1).headD 1 + (rowS w.1).headD 1) :: (rowS v.1).tail, v.2 ++ w.2)
  may : vmayF r.1 r.2 = true
theorem jn_ok {v w : VP} (h : (jn v w).2 = 0) : JOK v w (jn v w).1 := by
  unfold jn at h ⊢
  split at h
  · rename_i hm
    rw [if_pos hm]
    rw [Bool.and_eq_true] at hm
    have ok1 := vmay_ok hm.1
    have ok2 := vmay_ok hm.2
    split at h
    · cases h
    · rename_i h1
      split at h
      · cases h
      · rename_i h2
        split at h
        · rename_i h3
          exact absurd h h3
        · rename_i h3
          rw [if_neg h1, if_neg h2, if_neg h3]
          have ht : (rowS v.1).tail = (rowS w.1).tail := Classical.byContradiction h2
          refine ⟨ok1, ok2, ht, rfl, vmay_of (by simpa using h3) ?_ ?_⟩
          · have e1 := rowS_prod ok1
            have e2 := rowS_prod ok2
            rw [← ht] at e2
            dsimp only
            rw [List.length_append, prodI, Int.add_mul, ← e1, ← e2]
            omega
          · intro x hx
            rcases List.mem_append.1 hx with h | h
            · exact ok1.may x h
            · exact ok2.may x h
  · cases h
theorem jn_err {v w : VP} (h : (jn v w).2 ≠ 0) : (jn v w).1 = noV := by
  unfold jn at h ⊢
  split
  · split
    · rfl
    · split
      · rfl
      · split
        · rfl
        · rename_i h1 h2 h3 h4
          rw [if_pos h1, if_neg h2, if_neg h3, if_neg h4] at h
          exact absurd rfl h
  · rfl
theorem jn_sm (v w : VP) : SmV (jn v w).1 := by
  by_cases h : (jn v w).2 = 0
  · exact (vmay_ok (jn_ok h).may).small
  · rw [jn_err h]
    exact ⟨by simp [noV], by simp [noV, Sm]⟩
theorem J_few (v w x : VP) (hv : v.2.length ≤ 9223372036854775807) (hw : w.2.length ≤ 9223372036854775807) (hx : x.2.length ≤ 9223372036854775807) (h : (few4 v.1 v.2 && few4 w.1 w.2 && few4 x.1 x.2) = false) : C.run (.call 14 [vE v, vE w, vE x] []) = some (.done (.bool true) []) := by
  have hs := shown14
  have f1 := Few4 v.1 v.2 hv
  have f2 := Few4 w.1 w.2 hw
  have f3 := Few4 x.1 x.2 hx
  refine run_of_step _ ?_
  cases h1 : few4 v.1 v.2 with
  | false =>
    rw [h1] at f1
    refine call_told (fn := Tryd.f14) (by kernel_rfl) rfl ?_
    repeat' (first | refine wl_nil ?_ | refine wk_nil ?_ | refine wc_seq ?_ | refine kR ?_ | refine jR ?_ | refine wc_skip ?_ | refine wc_ret ?_ | refine wc_exit ?_ | refine wc_block ?_ | refine wc_scope ?_ | refine wc_label ?_ | refine wn_go ?_ | refine wn_ret ?_ | refine wn_exit ?_ | refine wx_go ?_ | refine wx_ret ?_ | refine wx_here ?_ | refine kX ?_ | (refine kF (fun ht => ?_) (fun ht => ?_) <;> first | (cases ht; done) | skip) | (refine kB (fun hb => ?_) (fun hb => ?_) <;> first | (cases hb; done) | (exact absurd hb (by decide)) | skip) | (refine jB (fun hb => ?_) (fun hb => ?_) <;> first | (cases hb; done) | (exact absurd hb (by decide)) | skip) | refine kH ?_ | refine kM ?_ | refine jM ?_ | refine kMi ?_ | refine jMi ?_ | refine kV ?_ | refine kE ?_ | refine jV ?_ | refine jE ?_ | refine kN ?_ | refine jN ?_ | refine kC ?_ | refine kSh ?_ | refine jC ?_ | refine kI ?_ | refine jI ?_ | refine kS ?_ | refine jS ?_ | refine kP ?_ | refine jP ?_ | refine kD ?_ | refine jD ?_ | refine kT ?_ | refine jT ?_ | refine kQ ?_ | refine jQ ?_ | refine kAo ?_ | refine jAp ?_ | refine kAr ?_ | refine kMk ?_ | refine jAr ?_ | refine kAn ?_ | refine jAm ?_ | refine kW ?_ | refine jW ?_ | refine kG ?_ | refine jG ?_ | refine kL ?_ | refine jL ?_ | refine kJ ?_ | refine jJ ?_)
    exact eq_ret rfl rfl
  | true =>
    rw [h1] at f1 h
    cases h2 : few4 w.1 w.2 with
    | false =>
      rw [h2] at f2
      refine call_told (fn := Tryd.f14) (by kernel_rfl) rfl ?_
      repeat' (first | refine wl_nil ?_ | refine wk_nil ?_ | refine wc_seq ?_ | refine kR ?_ | refine jR ?_ | refine wc_skip ?_ | refine wc_ret ?_ | refine wc_exit ?_ | refine wc_block ?_ | refine wc_scope ?_ | refine wc_label ?_ | refine wn_go ?_ | refine wn_ret ?_ | refine wn_exit ?_ | refine wx_go ?_ | refine wx_ret ?_ | refine wx_here ?_ | refine kX ?_ | (refine kF (fun ht => ?_) (fun ht => ?_) <;> first | (cases ht; done) | skip) | (refine kB (fun hb => ?_) (fun hb => ?_) <;> first | (cases hb; done) | (exact absurd hb (by decide)) | skip) | (refine jB (fun hb => ?_) (fun hb => ?_) <;> first | (cases hb; done) | (exact absurd hb (by decide)) | skip) | refine kH ?_ | refine kM ?_ | refine jM ?_ | refine kMi ?_ | refine jMi ?_ | refine kV ?_ | refine kE ?_ | refine jV ?_ | refine jE ?_ | refine kN ?_ | refine jN ?_ | refine kC ?_ | refine kSh ?_ | refine jC ?_ | refine kI ?_ | refine jI ?_ | refine kS ?_ | refine jS ?_ | refine kP ?_ | refine jP ?_ | refine kD ?_ | refine jD ?_ | refine kT ?_ | refine jT ?_ | refine kQ ?_ | refine jQ ?_ | refine kAo ?_ | refine jAp ?_ | refine kAr ?_ | refine kMk ?_ | refine jAr ?_ | refine kAn ?_ | refine jAm ?_ | refine kW ?_ | refine jW ?_ | refine kG ?_ | refine jG ?_ | refine kL ?_ | refine jL ?_ | refine kJ ?_ | refine jJ ?_)
      exact eq_ret rfl rfl
    | true =>
      rw [h2] at f2 h
      rw [show few4 x.1 x.2 = false from h] at f3
      refine call_told (fn := Tryd.f14) (by kernel_rfl) rfl ?_
      repeat' (first | refine wl_nil ?_ | refine wk_nil ?_ | refine wc_seq ?_ | refine kR ?_ | refine jR ?_ | refine wc_skip ?_ | refine wc_ret ?_ | refine wc_exit ?_ | refine wc_block ?_ | refine wc_scope ?_ | refine wc_label ?_ | refine wn_go ?_ | refine wn_ret ?_ | refine wn_exit ?_ | refine wx_go ?_ | refine wx_ret ?_ | refine wx_here ?_ | refine kX ?_ | (refine kF (fun ht => ?_) (fun ht => ?_) <;> first | (cases ht; done) | skip) | (refine kB (fun hb => ?_) (fun hb => ?_) <;> first | (cases hb; done) | (exact absurd hb (by decide)) | skip) | (refine jB (fun hb => ?_) (fun hb => ?_) <;> first | (cases hb; done) | (exact absurd hb (by decide)) | skip) | refine kH ?_ | refine kM ?_ | refine jM ?_ | refine kMi ?_ | refine jMi ?_ | refine kV ?_ | refine kE ?_ | refine jV ?_ | refine jE ?_ | refine kN ?_ | refine jN ?_ | refine kC ?_ | refine kSh ?_ | refine jC ?_ | refine kI ?_ | refine jI ?_ | refine kS ?_ | refine jS ?_ | refine kP ?_ | refine jP ?_ | refine kD ?_ | refine jD ?_ | refine kT ?_ | refine jT ?_ | refine kQ ?_ | refine jQ ?_ | refine kAo ?_ | refine jAp ?_ | refine kAr ?_ | refine kMk ?_ | refine jAr ?_ | refine kAn ?_ | refine jAm ?_ | refine kW ?_ | refine jW ?_ | refine kG ?_ | refine jG ?_ | refine kL ?_ | refine jL ?_ | refine kJ ?_ | refine jJ ?_)
      exact eq_ret rfl rfl
theorem J_err (v w x : VP) (hv : few4 v.1 v.2 = true) (hw : few4 w.1 w.2 = true) (hx : few4 x.1 x.2 = true) (a b c d : VP) (e f g h : Int) (j1 : C.run (.call 48 [vE v, vE w] []) = some (.done (.tuple [vE a, .int .i64 e]) [])) (j2 : C.run (.call 48 [vE w, vE x] []) = some (.done (.tuple [vE b, .int .i64 f]) []))
    (j3 : C.run (.call 48 [vE a, vE x] []) = some (.done (.tuple [vE c, .int .i64 g]) [])) (j4 : C.run (.call 48 [vE v, vE b] []) = some (.done (.tuple [vE d, .int .i64 h]) [])) (he : e ≠ 0 → a = noV) (hne : e ≠ 0 ∨ f ≠ 0 ∨ g ≠ 0 ∨ h ≠ 0) : C.run (.call 14 [vE v, vE w, vE x] []) = some (.done (.bool true) []) := by
  have hs := shown14
  have f1 := Few4 v.1 v.2 (by have h0 : v.2.length < 1000000 := (few_sm hv).2.1; omega)
  have f2 := Few4 w.1 w.2 (by have h0 : w.2.length < 1000000 := (few_sm hw).2.1; omega)
  have f3 := Few4 x.1 x.2 (by have h0 : x.2.length < 1000000 := (few_sm hx).2.1; omega)
  rw [hv] at f1
  rw [hw] at f2
  rw [hx] at f3
  have hsm := VSame [] [] [] [] (by simp) (by simp) (by simp) (by simp)
  clear hv hw hx
  refine run_of_step _ ?_
  by_cases he0 : e = 0
  · subst he0
    clear he
    refine call_told (fn := Tryd.f14) (by kernel_rfl) rfl ?_
    repeat' (first | (exact eq_ret rfl rfl) | (exfalso; simp at hb; done) | (exfalso; simp_all; done) | (first | refine wl_nil ?_ | refine wk_nil ?_ | refine wc_seq ?_ | refine kR ?_ | refine jR ?_ | refine wc_skip ?_ | refine wc_ret ?_ | refine wc_exit ?_ | refine wc_block ?_ | refine wc_scope ?_ | refine wc_label ?_ | refine wn_go ?_ | refine wn_ret ?_ | refine wn_exit ?_ | refine wx_go ?_ | refine wx_ret ?_ | refine wx_here ?_ | refine kX ?_ | (refine kF (fun ht => ?_) (fun ht => ?_) <;> first | (cases ht; done) | skip) | (refine kB (fun hb => ?_) (fun hb => ?_) <;> first | (cases hb; done) | (exact absurd hb (by decide)) | skip) | (refine jB (fun hb => ?_) (fun hb => ?_) <;> first | (cases hb; done) | (exact absurd hb (by decide)) | skip) | refine kH ?_ | refine kM ?_ | refine jM ?_ | refine kMi ?_ | refine jMi ?_ | refine kV ?_ | refine kE ?_ | refine jV ?_ | refine jE ?_ | refine kN ?_ | refine jN ?_ | refine kC ?_ | refine kSh ?_ | refine jC ?_ | refine kI ?_ | refine jI ?_ | refine kS ?_ | refine jS ?_ | refine kP ?_ | refine jP ?_ | refine kD ?_ | refine jD ?_ | refine kT ?_ | refine jT ?_ | refine kQ ?_ | refine jQ ?_ | refine kAo ?_ | refine jAp ?_ | refine kAr ?_ | refine kMk ?_ | refine jAr ?_ | refine kAn ?_ | refine jAm ?_ | refine kW ?_ | refine jW ?_ | refine kG ?_ | refine jG ?_ | refine kL ?_ | refine jL ?_ | refine kJ ?_ | refine jJ ?_))
  · obtain rfl := he he0
    refine call_told (fn := Tryd.f14) (by kernel_rfl) rfl ?_
    repeat' (first | (exact eq_ret rfl rfl) | (exfalso; simp at hb; omega) | (exfalso; simp at hb; done) | (first | refine wl_nil ?_ | refine wk_nil ?_ | refine wc_seq ?_ | refine kR ?_ | refine jR ?_ | refine wc_skip ?_ | refine wc_ret ?_ | refine wc_exit ?_ | refine wc_block ?_ | refine wc_scope ?_ | refine wc_label ?_ | refine wn_go ?_ | refine wn_ret ?_ | refine wn_exit ?_ | refine wx_go ?_ | refine wx_ret ?_ | refine wx_here ?_ | refine kX ?_ | (refine kF (fun ht => ?_) (fun ht => ?_) <;> first | (cases ht; done) | skip) | (refine kB (fun hb => ?_) (fun hb => ?_) <;> first | (cases hb; done) | (exact absurd hb (by decide)) | skip) | (refine jB (fun hb => ?_) (fun hb => ?_) <;> first | (cases hb; done) | (exact absurd hb (by decide)) | skip) | refine kH ?_ | refine kM ?_ | refine jM ?_ | refine kMi ?_ | refine jMi ?_ | refine kV ?_ | refine kE ?_ | refine jV ?_ | refine jE ?_ | refine kN ?_ | refine jN ?_ | refine kC ?_ | refine kSh ?_ | refine jC ?_ | refine kI ?_ | refine jI ?_ | refine kS ?_ | refine jS ?_ | refine kP ?_ | refine jP ?_ | refine kD ?_ | refine jD ?_ | refine kT ?_ | refine jT ?_ | refine kQ ?_ | refine jQ ?_ | refine kAo ?_ | refine jAp ?_ | refine kAr ?_ | refine kMk ?_ | refine jAr ?_ | refine kAn ?_ | refine jAm ?_ | refine kW ?_ | refine jW ?_ | refine kG ?_ | refine jG ?_ | refine kL ?_ | refine jL ?_ | refine kJ ?_ | refine jJ ?_))
theorem J_fine (v w x : VP) (hv : few4 v.1 v.2 = true) (hw : few4 w.1 w.2 = true) (hx : few4 x.1 x.2 = true) (a b c : VP) (j1 : C.run (.call 48 [vE v, vE w] []) = some (.done (.tuple [vE a, .int .i64 0]) [])) (j2 : C.run (.call 48 [vE w, vE x] []) = some (.done (.tuple [vE b, .int .i64 0]) []))
    (j3 : C.run (.call 48 [vE a, vE x] []) = some (.done (.tuple [vE c, .int .i64 0]) [])) (j4 : C.run (.call 48 [vE v, vE b] []) = some (.done (.tuple [vE c, .int .i64 0]) [])) (hc : vmayF c.1 c.2 = true) (hn : c.1.headD 1 = IntKind.i64.wrap (IntKind.i64.wrap (v.1.headD 1 + w.1.headD 1) + x.1.headD 1)) : C.run (.call 14 [vE v, vE w, vE x] []) = some (.done (.bool true) []) := by
  have hs := shown14
  have s1 := few_sm hv
  have s2 := few_sm hw
  have s3 := few_sm hx
  have f1 := Few4 v.1 v.2 (by have h0 : v.2.length < 1000000 := s1.2.1; omega)
  have f2 := Few4 w.1 w.2 (by have h0 : w.2.length < 1000000 := s2.2.1; omega)
  have f3 := Few4 x.1 x.2 (by have h0 : x.2.length < 1000000 := s3.2.1; omega)
  rw [hv] at f1
  rw [hw] at f2
  rw [hx] at f3
  have ok := (vmay_ok hc).small
  have hsm := VSame c.1 c.1 c.2 c.2 (by have h0 : c.1.length < 1000000 := ok.1; omega) (by have h0 : c.1.length < 1000000 := ok.1; omega) (by have h0 : c.2.length < 1000000 := ok.2.1; omega) (by have h0 : c.2.length < 1000000 := ok.2.1; omega)
  rw [decide_eq_true rfl, decide_eq_true rfl] at hsm
  have m1 := VMany v.1 v.2 s1.1
  have m2 := VMany w.1 w.2 s2.1
  have m3 := VMany x.1 x.2 s3.1
  have m4 := VMany c.1 c.2 ok.1
  have hmy := VMay c.1 c.2 (by have h0 : c.1.length < 1000000 := ok.1; omega) ok.2
  rw [hc] at hmy
  clear hv hw hx s1 s2 s3 ok hc
  refine run_of_step _ ?_
  refine call_told (fn := Tryd.f14) (by kernel_rfl) rfl ?_
  repeat' (first | (exact eq_ret rfl rfl) | (exfalso; rw [hn] at hb; simp at hb; done) | (exfalso; simp at hb; done) | (first | refine wl_nil ?_ | refine wk_nil ?_ | refine wc_seq ?_ | refine kR ?_ | refine jR ?_ | refine wc_skip ?_ | refine wc_ret ?_ | refine wc_exit ?_ | refine wc_block ?_ | refine wc_scope ?_ | refine wc_label ?_ | refine wn_go ?_ | refine wn_ret ?_ | refine wn_exit ?_ | refine wx_go ?_ | refine wx_ret ?_ | refine wx_here ?_ | refine kX ?_ | (refine kF (fun ht => ?_) (fun ht => ?_) <;> first | (cases ht; done) | skip) | (refine kB (fun hb => ?_) (fun hb => ?_) <;> first | (cases hb; done) | (exact absurd hb (by decide)) | skip) | (refine jB (fun hb => ?_) (fun hb => ?_) <;> first | (cases hb; done) | (exact absurd hb (by decide)) | skip) | refine kH ?_ | refine kM ?_ | refine jM ?_ | refine kMi ?_ | refine jMi ?_ | refine kV ?_ | refine kE ?_ | refine jV ?_ | refine jE ?_ | refine kN ?_ | refine jN ?_ | refine kC ?_ | refine kSh ?_ | refine jC ?_ | refine kI ?_ | refine jI ?_ | refine kS ?_ | refine jS ?_ | refine kP ?_ | refine jP ?_ | refine kD ?_ | refine jD ?_ | refine kT ?_ | refine jT ?_ | refine kQ ?_ | refine jQ ?_ | refine kAo ?_ | refine jAp ?_ | refine kAr ?_ | refine kMk ?_ | refine jAr ?_ | refine kAn ?_ | refine jAm ?_ | refine kW ?_ | refine jW ?_ | refine kG ?_ | refine jG ?_ | refine kL ?_ | refine jL ?_ | refine kJ ?_ | refine jJ ?_))
theorem MouldJoins (v w x : VP) (hv : v.2.length ≤ 9223372036854775807) (hw : w.2.length ≤ 9223372036854775807) (hx : x.2.length ≤ 9223372036854775807) : C.run (.call 14 [vE v, vE w, vE x] []) = some (.done (.bool true) []) := by
  cases hfew : (few4 v.1 v.2 && few4 w.1 w.2 && few4 x.1 x.2) with
  | false => exact J_few v w x hv hw hx hfew
  | true =>
    simp only [Bool.and_eq_true] at hfew
    obtain ⟨⟨f1, f2⟩, f3⟩ := hfew
    have j1 := MJoinT v w (few_sm f1) (few_sm f2)
    have j2 := MJoinT w x (few_sm f2) (few_sm f3)
    have j3 := MJoinT (jn v w).1 x (jn_sm _ _) (few_sm f3)
    have j4 := MJoinT v (jn w x).1 (few_sm f1) (jn_sm _ _)
    by_cases he : (jn v w).2 = 0 ∧ (jn w x).2 = 0 ∧ (jn (jn v w).1 x).2 = 0 ∧ (jn v (jn w x).1).2 = 0
    · obtain ⟨e1, e2, e3, e4⟩ := he
      have k1 := jn_ok e1
      have k2 := jn_ok e2
      have k3 := jn_ok e3
      have k4 := jn_ok e4
      have hrow : ∀ (a : Int) (t : List Int), rowS (a :: t) = a :: t := fun _ _ => rfl
      have q3 := k3.eq
      rw [k1.eq, hrow] at q3
      have q4 := k4.eq
      rw [k2.eq, hrow] at q4
      simp only [List.headD_cons, List.tail_cons] at q3 q4
      have hsame : (jn v (jn w x).1).1 = (jn (jn v w).1 x).1 := by
        rw [k1.eq, k2.eq] at *
        rw [q3, q4, Int.add_assoc, List.append_assoc]
      rw [e1] at j1
      rw [e2] at j2
      rw [e3] at j3
      rw [e4, hsame] at j4
      refine J_fine v w x f1 f2 f3 _ _ _ j1 j2 j3 j4 k3.may ?_
      have b1 := rowS_bd k1.ok1
      have b2 := rowS_bd k1.ok2
      have b3 := rowS_bd k2.ok2
      have hh : (jn (jn v w).1 x).1.1.headD 1 = (rowS v.1).headD 1 + (rowS w.1).headD 1 + (rowS x.1).headD 1 := by
        rw [k3.eq, k1.eq, hrow]
        rfl
      rw [hh, ← rowS_head v.1, ← rowS_head w.1, ← rowS_head x.1, wq ((rowS v.1).headD 1 + (rowS w.1).headD 1) (by omega) (by omega), wq _ (by omega) (by omega)]
    · exact J_err v w x f1 f2 f3 _ _ _ _ _ _ _ _ j1 j2 j3 j4 jn_err (by omega)
theorem lawMouldJoins (s1 : List Int) (_ : s1.length ≤ maxLen ∧ ∀ x ∈ s1, (Lit.int .i64 x).wf = true) (l1 : List Tx) (k1 : l1.length ≤ maxLen ∧ ∀ x ∈ l1, x.length ≤ maxLen) (s2 : List Int) (_ : s2.length ≤ maxLen ∧ ∀ x ∈ s2, (Lit.int .i64 x).wf = true) (l2 : List Tx) (k2 : l2.length ≤ maxLen ∧ ∀ x ∈ l2, x.length ≤ maxLen) (s3 : List Int) (_ : s3.length ≤ maxLen ∧ ∀ x ∈ s3, (Lit.int .i64 x).wf = true) (l3 : List Tx) (k3 : l3.length ≤ maxLen ∧ ∀ x ∈ l3, x.length ≤ maxLen) : C.run (.call 14 [vD s1 l1, vD s2 l2, vD s3 l3] []) = some (.done (.bool true) []) :=
  MouldJoins (s1, l1) (s2, l2) (s3, l3) k1.1 k2.1 k3.1
end Go.Proofs.YthcijldahbalcaaDoor.Q
end
section
namespace Go.Proofs.YthcijldahbalcaaDoor.Q
open Go Go.PM Go.RowKit
set_option maxRecDepth 100000
set_option maxHeartbeats 2000000
theorem may_small {x : Int} (h0 : -1099511627776 ≤ x) (h1 : x ≤ 1099511627776) : mayT (intT x) = true := by
  refine (mayT_iff _).2 ⟨by rw [tv_intT], ?_⟩
  rw [tv_intT]
  have h2 : x.natAbs < 10 ^ 13 := by omega
  exact Nat.lt_of_lt_of_le h2 (Nat.pow_le_pow_right (by decide) (by decide))
theorem numI_int {x : Int} (h0 : -1099511627776 ≤ x) (h1 : x ≤ 1099511627776) : numI (intT x) = (x, true) := by
  unfold numI
  rw [if_pos ⟨may_small h0 h1, by rw [tv_intT]; unfold W64; simp; omega⟩, tv_intT]
theorem oneF_int {x : Int} (h0 : -1099511627776 ≤ x) (h1 : x ≤ 1099511627776) : oneF (intT x) = (x, 0) := by
  unfold oneF
  rw [numI_int h0 h1, if_pos ⟨rfl, h0, h1⟩]
theorem may_scalar {x : Tx} (h : mayT x = true) : vmayF [] [x] = true := vmay_of rfl rfl (fun y hy => by rw [List.mem_singleton.1 hy]; exact h)
theorem szL_of : ∀ (l : List Int) (s : Int), (∀ x ∈ l, 1 ≤ x) → 1 ≤ s → s * prodI l ≤ 4096 → szL l s ≠ none
  | [], s, _, _, _ => by simp [szL]
  | x :: r, s, hp, h1, h => by
    have hx := hp x List.mem_cons_self
    have hr : ∀ y ∈ r, 1 ≤ y := fun y hy => hp y (List.mem_cons_of_mem _ hy)
    have hpr : 1 ≤ prodI r := by
      clear h hp
      induction r with
      | nil => exact Int.le_refl 1
      | cons a t ih =>
        have h2 := hr a List.mem_cons_self
        have h3 := ih (fun y hy => hr y (List.mem_cons_of_mem _ hy))
        have := Int.mul_le_mul h2 h3 (by omega) (by omega)
        rw [prodI]
        omega
    have hsx : 1 ≤ s * x := by
      have := Int.mul_le_mul h1 hx (by omega) (by omega)
      omega
    rw [prodI, ← Int.mul_assoc] at h
    have hle : s * x ≤ 4096 := by
      have := Int.mul_le_mul_of_nonneg_left hpr (show 0 ≤ s * x by omega)
      omega
    have hq : ¬ x > (4096 : Int).tdiv s := by
      rw [Int.tdiv_eq_ediv_of_nonneg (by omega)]
      have : x ≤ 4096 / s := by
        rw [Int.le_ediv_iff_mul_le (by omega), Int.mul_comm]
        exact hle
      omega
    rw [szL, if_neg hq]
    exact szL_of r (s * x) hr hsx h
theorem sizeF_of {s : List Int} (hl : s.length ≤ 3) (hb : ∀ x ∈ s, 0 ≤ x ∧ x ≤ 1099511627776) (hp : prodI s ≤ 4096) : (sizeF s).2 = 0 := by
  unfold sizeF
  rw [if_neg (by omega), if_neg (by
    simp only [List.any_eq_true, decide_eq_true_eq, not_exists, not_and]
    intro x hx
    have := hb x hx
    omega), if_neg (by
    simp only [List.any_eq_true, decide_eq_true_eq, not_exists, not_and]
    intro x hx
    have := hb x hx
    omega)]
  split
  · rfl
  · rename_i h
    have h1 : ∀ x ∈ s, 1 ≤ x := by
      intro x hx
      have h2 := hb x hx
      have h3 : ¬ x = 0 := by
        rintro rfl
        exact h (List.any_eq_true.2 ⟨0, hx, by simp⟩)
      omega
    have := szL_of s 1 h1 (by omega) (by omega)
    cases hz : szL s 1 with
    | none => exact absurd hz this
    | some n => rfl
theorem prod_nn : ∀ (s : List Int), (∀ x ∈ s, 0 ≤ x) → 0 ≤ prodI s
  | [], _ => by decide
  | x :: r, h => by
    rw [prodI]
    exact Int.mul_nonneg (h x List.mem_cons_self) (prod_nn r fun y hy => h y (List.mem_cons_of_mem _ hy))
theorem some_may {a : Int} {t : List Int} {l : List Tx} (ok : VOK (a :: t) l) {i j : Nat} (hij : i ≤ j) (hj : (j : Int) ≤ a) : vmayF (someF (a :: t) l i j).1 (someF (a :: t) l i j).2 = true := by
  have hmul := item_mul ok (by simp)
  obtain ⟨q, hq⟩ : ∃ q, itemN (a :: t) l = q := ⟨_, rfl⟩
  have ha := ok.sh.nn a List.mem_cons_self
  have hpt := prod_nn t (fun x hx => (ok.sh.nn x (List.mem_cons_of_mem _ hx)).1)
  have hlen := ok.len
  rw [prodI] at hlen
  have hfew := ok.sh.few
  rw [prodI] at hfew
  unfold someF
  rw [hq] at hmul ⊢
  simp only [List.headD_cons, List.tail_cons] at hmul ⊢
  obtain ⟨p, hp⟩ := Int.eq_ofNat_of_zero_le hpt
  obtain ⟨A, rfl⟩ := Int.eq_ofNat_of_zero_le ha.1
  rw [Int.toNat_natCast] at hmul
  rw [hp] at hlen hfew
  have hlen2 : l.length = A * p := by exact_mod_cast hlen
  have hjA : j ≤ A := by omega
  refine vmay_of (sizeF_of ok.sh.len ?_ ?_) ?_ ?_
  · intro x hx
    rcases List.mem_cons.1 hx with rfl | hx
    · omega
    · exact ok.sh.nn x (List.mem_cons_of_mem _ hx)
  · rw [prodI, hp]
    have h1 : ((j : Int) - i) * (p : Nat) ≤ ((A : Nat) : Int) * (p : Nat) := Int.mul_le_mul_of_nonneg_right (by omega) (by omega)
    omega
  · rw [prodI, hp]
    have h1 : j * q ≤ l.length := by
      rw [← hmul, Nat.mul_comm]
      exact Nat.mul_le_mul_left _ hjA
    have h2 : i * q ≤ j * q := Nat.mul_le_mul_right _ hij
    rw [List.length_take, List.length_drop, Nat.min_eq_left (by omega)]
    by_cases hA : A = 0
    · have : j = 0 := by omega
      have : i = 0 := by omega
      subst_vars
      simp
    · have hpq : q = p := by
        rw [hlen2, Nat.mul_comm] at hmul
        exact Nat.eq_of_mul_eq_mul_left (by omega) hmul
      subst hpq
      rw [← Nat.sub_mul, Int.natCast_mul, Int.natCast_sub hij]
  · intro x hx
    exact ok.may x (List.mem_of_mem_drop (List.mem_of_mem_take hx))
theorem some_all {a : Int} {t : List Int} {l : List Tx} (ok : VOK (a :: t) l) : someF (a :: t) l 0 a.toNat = (a :: t, l) := by
  have hmul := item_mul ok (by simp)
  have ha := ok.sh.nn a List.mem_cons_self
  unfold someF
  rw [Nat.mul_comm] at hmul
  simp only [List.headD_cons] at hmul
  rw [hmul, Nat.zero_mul, Nat.sub_zero, List.drop_zero, List.take_length]
  congr 1
  rw [List.tail_cons]
  congr 1
  omega
end Go.Proofs.YthcijldahbalcaaDoor.Q
end
section
namespace Go.Proofs.YthcijldahbalcaaDoor.Q
open Go Go.PM Go.RowKit
set_option maxRecDepth 100000
set_option maxHeartbeats 2000000
theorem some_join {a : Int} {t : List Int} {l : List Tx} (ok : VOK (a :: t) l) {i j k : Nat} (hij : i ≤ j) (hjk : j ≤ k) (hk : (k : Int) ≤ a) : jn (someF (a :: t) l i j) (someF (a :: t) l j k) = (someF (a :: t) l i k, 0) := by
  have m1 := some_may ok hij (by omega)
  have m2 := some_may ok hjk hk
  have m3 := some_may ok (Nat.le_trans hij hjk) hk
  have hz := m3
  unfold vmayF at hz
  simp only [Bool.and_eq_true, beq_iff_eq] at hz
  unfold jn
  rw [m1, m2, Bool.true_and, if_pos rfl]
  have e1 : (((rowS (someF (a :: t) l i j).1).headD 1 + (rowS (someF (a :: t) l j k).1).headD 1) :: (rowS (someF (a :: t) l i j).1).tail) = (someF (a :: t) l i k).1 := by
    show (((j : Int) - i) + ((k : Int) - j)) :: t = ((k : Int) - i) :: t
    congr 1
    omega
  rw [e1, if_neg (by simp [someF, rowS]), if_neg (by simp [someF, rowS]), if_neg (by rw [hz.1.1]; simp)]
  refine congrArg (·, (0 : Int)) ?_
  refine Prod.ext rfl ?_
  show (l.drop (i * itemN (a :: t) l)).take (j * itemN (a :: t) l - i * itemN (a :: t) l) ++ (l.drop (j * itemN (a :: t) l)).take (k * itemN (a :: t) l - j * itemN (a :: t) l) = (l.drop (i * itemN (a :: t) l)).take (k * itemN (a :: t) l - i * itemN (a :: t) l)
  obtain ⟨q, hq⟩ : ∃ q, itemN (a :: t) l = q := ⟨_, rfl⟩
  rw [hq]
  have h1 : i * q ≤ j * q := Nat.mul_le_mul_right _ hij
  have h2 : j * q ≤ k * q := Nat.mul_le_mul_right _ hjk
  have e2 : k * q - i * q = (j * q - i * q) + (k * q - j * q) := by omega
  rw [e2, List.take_add, List.drop_drop]
  congr 3
  omega
theorem C_few (v : VP) (k : Int) (hv : v.2.length ≤ 9223372036854775807) (h : few4 v.1 v.2 = false) : C.run (.call 15 [vE v, .int .u8 k] []) = some (.done (.bool true) []) := by
  have hs := shown14
  have f1 := Few4 v.1 v.2 hv
  rw [h] at f1
  refine run_of_step _ ?_
  refine call_told (fn := Tryd.f15) (by kernel_rfl) rfl ?_
  repeat' (first | refine wl_nil ?_ | refine wk_nil ?_ | refine wc_seq ?_ | refine kR ?_ | refine jR ?_ | refine wc_skip ?_ | refine wc_ret ?_ | refine wc_exit ?_ | refine wc_block ?_ | refine wc_scope ?_ | refine wc_label ?_ | refine wn_go ?_ | refine wn_ret ?_ | refine wn_exit ?_ | refine wx_go ?_ | refine wx_ret ?_ | refine wx_here ?_ | refine kX ?_ | (refine kF (fun ht => ?_) (fun ht => ?_) <;> first | (cases ht; done) | skip) | (refine kB (fun hb => ?_) (fun hb => ?_) <;> first | (cases hb; done) | (exact absurd hb (by decide)) | skip) | (refine jB (fun hb => ?_) (fun hb => ?_) <;> first | (cases hb; done) | (exact absurd hb (by decide)) | skip) | refine kH ?_ | refine kM ?_ | refine jM ?_ | refine kMi ?_ | refine jMi ?_ | refine kV ?_ | refine kE ?_ | refine jV ?_ | refine jE ?_ | refine kN ?_ | refine jN ?_ | refine kC ?_ | refine kSh ?_ | refine jC ?_ | refine kI ?_ | refine jI ?_ | refine kS ?_ | refine jS ?_ | refine kP ?_ | refine jP ?_ | refine kD ?_ | refine jD ?_ | refine kT ?_ | refine jT ?_ | refine kQ ?_ | refine jQ ?_ | refine kAo ?_ | refine jAp ?_ | refine kAr ?_ | refine kMk ?_ | refine jAr ?_ | refine kAn ?_ | refine jAm ?_ | refine kW ?_ | refine jW ?_ | refine kG ?_ | refine jG ?_ | refine kL ?_ | refine jL ?_ | refine kJ ?_ | refine jJ ?_)
  exact eq_ret rfl rfl
theorem C_may (v : VP) (k : Int) (hv : few4 v.1 v.2 = true) (h : vmayF v.1 v.2 = false) : C.run (.call 15 [vE v, .int .u8 k] []) = some (.done (.bool true) []) := by
  have hs := shown14
  have hsm := few_sm hv
  have h0 : v.2.length < 1000000 := hsm.2.1
  have h1 : v.1.length < 1000000 := hsm.1
  have f1 := Few4 v.1 v.2 (by omega)
  have hm := VMay v.1 v.2 (by omega) hsm.2
  rw [hv] at f1
  rw [h] at hm
  clear hv h hsm h0 h1
  refine run_of_step _ ?_
  refine call_told (fn := Tryd.f15) (by kernel_rfl) rfl ?_
  repeat' (first | refine wl_nil ?_ | refine wk_nil ?_ | refine wc_seq ?_ | refine kR ?_ | refine jR ?_ | refine wc_skip ?_ | refine wc_ret ?_ | refine wc_exit ?_ | refine wc_block ?_ | refine wc_scope ?_ | refine wc_label ?_ | refine wn_go ?_ | refine wn_ret ?_ | refine wn_exit ?_ | refine wx_go ?_ | refine wx_ret ?_ | refine wx_here ?_ | refine kX ?_ | (refine kF (fun ht => ?_) (fun ht => ?_) <;> first | (cases ht; done) | skip) | (refine kB (fun hb => ?_) (fun hb => ?_) <;> first | (cases hb; done) | (exact absurd hb (by decide)) | skip) | (refine jB (fun hb => ?_) (fun hb => ?_) <;> first | (cases hb; done) | (exact absurd hb (by decide)) | skip) | refine kH ?_ | refine kM ?_ | refine jM ?_ | refine kMi ?_ | refine jMi ?_ | refine kV ?_ | refine kE ?_ | refine jV ?_ | refine jE ?_ | refine kN ?_ | refine jN ?_ | refine kC ?_ | refine kSh ?_ | refine jC ?_ | refine kI ?_ | refine jI ?_ | refine kS ?_ | refine jS ?_ | refine kP ?_ | refine jP ?_ | refine kD ?_ | refine jD ?_ | refine kT ?_ | refine jT ?_ | refine kQ ?_ | refine jQ ?_ | refine kAo ?_ | refine jAp ?_ | refine kAr ?_ | refine kMk ?_ | refine jAr ?_ | refine kAn ?_ | refine jAm ?_ | refine kW ?_ | refine jW ?_ | refine kG ?_ | refine jG ?_ | refine kL ?_ | refine jL ?_ | refine kJ ?_ | refine jJ ?_)
  exact eq_ret rfl rfl
theorem C_nil (l : List Tx) (k : Int) (hv : few4 [] l = true) (h : vmayF [] l = true) : C.run (.call 15 [vD [] l, .int .u8 k] []) = some (.done (.bool true) []) := by
  have hs := shown14
  have hsm := few_sm hv
  have h0 : l.length < 1000000 := hsm.2.1
  have f1 := Few4 [] l (by omega)
  have hm := VMay [] l (by simp) hsm.2
  rw [hv] at f1
  rw [h] at hm
  clear hv h hsm h0
  refine run_of_step _ ?_
  refine call_told (fn := Tryd.f15) (by kernel_rfl) rfl ?_
  repeat' (first | (exact eq_ret rfl rfl) | (exfalso; simp at hb; done) | (first | refine wl_nil ?_ | refine wk_nil ?_ | refine wc_seq ?_ | refine kR ?_ | refine jR ?_ | refine wc_skip ?_ | refine wc_ret ?_ | refine wc_exit ?_ | refine wc_block ?_ | refine wc_scope ?_ | refine wc_label ?_ | refine wn_go ?_ | refine wn_ret ?_ | refine wn_exit ?_ | refine wx_go ?_ | refine wx_ret ?_ | refine wx_here ?_ | refine kX ?_ | (refine kF (fun ht => ?_) (fun ht => ?_) <;> first | (cases ht; done) | skip) | (refine kB (fun hb => ?_) (fun hb => ?_) <;> first | (cases hb; done) | (exact absurd hb (by decide)) | skip) | (refine jB (fun hb => ?_) (fun hb => ?_) <;> first | (cases hb; done) | (exact absurd hb (by decide)) | skip) | refine kH ?_ | refine kM ?_ | refine jM ?_ | refine kMi ?_ | refine jMi ?_ | refine kV ?_ | refine kE ?_ | refine jV ?_ | refine jE ?_ | refine kN ?_ | refine jN ?_ | refine kC ?_ | refine kSh ?_ | refine jC ?_ | refine kI ?_ | refine jI ?_ | refine kS ?_ | refine jS ?_ | refine kP ?_ | refine jP ?_ | refine kD ?_ | refine jD ?_ | refine kT ?_ | refine jT ?_ | refine kQ ?_ | refine jQ ?_ | refine kAo ?_ | refine jAp ?_ | refine kAr ?_ | refine kMk ?_ | refine jAr ?_ | refine kAn ?_ | refine jAm ?_ | refine kW ?_ | refine jW ?_ | refine kG ?_ | refine jG ?_ | refine kL ?_ | refine jL ?_ | refine kJ ?_ | refine jJ ?_))
theorem C_fine (w : Int) (t : List Int) (l : List Tx) (k n M o : Int) (a b c d y : VP) (j : Int) (hs : C.run (.call 40 [] []) = some (.done (.bool true) [])) (f1 : C.run (.call 17 [vD (w :: t) l] []) = some (.done (.bool true) [])) (hm : C.run (.call 21 [vD (w :: t) l] []) = some (.done (.bool true) []))
    (hy : C.run (.call 22 [vD (w :: t) l] []) = some (.done (.int .i64 w) [])) (hmn : foldD (minD true) (.int .i64 w) [.int .i64 200] = some (.int .i64 M)) (hrem : binD .rem (.int .i64 (IntKind.i64.wrap k)) (.int .i64 (IntKind.i64.wrap (M + 1))) = some (.int .i64 n))
    (o1 : C.run (.call 42 [.int .i64 n] []) = some (.done (.str (intT n)) [])) (o2 : C.run (.call 42 [.int .i64 (IntKind.i64.wrap (0 - n))] []) = some (.done (.str (intT (-n))) [])) (o3 : C.run (.call 42 [.int .i64 (IntKind.i64.wrap (w + 1))] []) = some (.done (.str (intT (w + 1))) []))
    (s1 : C.run (.call 19 [.str (intT n)] []) = some (.done (vD [] [intT n]) [])) (s2 : C.run (.call 19 [.str (intT (-n))] []) = some (.done (vD [] [intT (-n)]) [])) (s3 : C.run (.call 19 [.str (intT (w + 1))] []) = some (.done (vD [] [intT (w + 1)]) []))
    (t1 : C.run (.call 49 [vD [] [intT n], vD (w :: t) l] []) = some (.done (okV a) [])) (t2 : C.run (.call 50 [vD [] [intT n], vD (w :: t) l] []) = some (.done (okV b) [])) (t3 : C.run (.call 49 [vD [] [intT (-n)], vD (w :: t) l] []) = some (.done (okV c) [])) (t4 : C.run (.call 50 [vD [] [intT (-n)], vD (w :: t) l] []) = some (.done (okV d) []))
    (t5 : C.run (.call 49 [vD [] [intT (w + 1)], vD (w :: t) l] []) = some (.done (errV o) [])) (ho : o ≠ 0) (j1 : C.run (.call 48 [vE a, vE b] []) = some (.done (okV (w :: t, l)) [])) (j2 : C.run (.call 48 [vE d, vE c] []) = some (.done (.tuple [vE y, .int .i64 j]) []))
    (hj : n ≠ 0 → y = (w :: t, l) ∧ j = 0) (hz : n = 0 → c = a ∧ d = b) (hsm : C.run (.call 20 [vD (w :: t) l, vD (w :: t) l] []) = some (.done (.bool true) [])) (m1 : C.run (.call 22 [vE a] []) = some (.done (.int .i64 n) [])) (m2 : C.run (.call 22 [vE c] []) = some (.done (.int .i64 n) [])) : C.run (.call 15 [vD (w :: t) l, .int .u8 k] []) = some (.done (.bool true) []) := by
  refine run_of_step _ ?_
  by_cases hn : n = 0
  · obtain ⟨rfl, rfl⟩ := hz hn
    subst hn
    clear hj hz
    refine call_told (fn := Tryd.f15) (by kernel_rfl) rfl ?_
    repeat' (first | (exact eq_ret rfl rfl) | (exfalso; simp at hb; omega) | (exfalso; simp at hb; done) | refine kZ .rem _ ?_ | (first | refine wl_nil ?_ | refine wk_nil ?_ | refine wc_seq ?_ | refine kR ?_ | refine jR ?_ | refine wc_skip ?_ | refine wc_ret ?_ | refine wc_exit ?_ | refine wc_block ?_ | refine wc_scope ?_ | refine wc_label ?_ | refine wn_go ?_ | refine wn_ret ?_ | refine wn_exit ?_ | refine wx_go ?_ | refine wx_ret ?_ | refine wx_here ?_ | refine kX ?_ | (refine kF (fun ht => ?_) (fun ht => ?_) <;> first | (cases ht; done) | skip) | (refine kB (fun hb => ?_) (fun hb => ?_) <;> first | (cases hb; done) | (exact absurd hb (by decide)) | skip) | (refine jB (fun hb => ?_) (fun hb => ?_) <;> first | (cases hb; done) | (exact absurd hb (by decide)) | skip) | refine kH ?_ | refine kM ?_ | refine jM ?_ | refine kMi ?_ | refine jMi ?_ | refine kV ?_ | refine kE ?_ | refine jV ?_ | refine jE ?_ | refine kN ?_ | refine jN ?_ | refine kC ?_ | refine kSh ?_ | refine jC ?_ | refine kI ?_ | refine jI ?_ | refine kS ?_ | refine jS ?_ | refine kP ?_ | refine jP ?_ | refine kD ?_ | refine jD ?_ | refine kT ?_ | refine jT ?_ | refine kQ ?_ | refine jQ ?_ | refine kAo ?_ | refine jAp ?_ | refine kAr ?_ | refine kMk ?_ | refine jAr ?_ | refine kAn ?_ | refine jAm ?_ | refine kW ?_ | refine jW ?_ | refine kG ?_ | refine jG ?_ | refine kL ?_ | refine jL ?_ | refine kJ ?_ | refine jJ ?_))
  · obtain ⟨rfl, rfl⟩ := hj hn
    clear hz
    refine call_told (fn := Tryd.f15) (by kernel_rfl) rfl ?_
    repeat' (first | (exact eq_ret rfl rfl) | (exfalso; simp at hb; omega) | (exfalso; simp at hb; done) | refine kZ .rem _ ?_ | (first | refine wl_nil ?_ | refine wk_nil ?_ | refine wc_seq ?_ | refine kR ?_ | refine jR ?_ | refine wc_skip ?_ | refine wc_ret ?_ | refine wc_exit ?_ | refine wc_block ?_ | refine wc_scope ?_ | refine wc_label ?_ | refine wn_go ?_ | refine wn_ret ?_ | refine wn_exit ?_ | refine wx_go ?_ | refine wx_ret ?_ | refine wx_here ?_ | refine kX ?_ | (refine kF (fun ht => ?_) (fun ht => ?_) <;> first | (cases ht; done) | skip) | (refine kB (fun hb => ?_) (fun hb => ?_) <;> first | (cases hb; done) | (exact absurd hb (by decide)) | skip) | (refine jB (fun hb => ?_) (fun hb => ?_) <;> first | (cases hb; done) | (exact absurd hb (by decide)) | skip) | refine kH ?_ | refine kM ?_ | refine jM ?_ | refine kMi ?_ | refine jMi ?_ | refine kV ?_ | refine kE ?_ | refine jV ?_ | refine jE ?_ | refine kN ?_ | refine jN ?_ | refine kC ?_ | refine kSh ?_ | refine jC ?_ | refine kI ?_ | refine jI ?_ | refine kS ?_ | refine jS ?_ | refine kP ?_ | refine jP ?_ | refine kD ?_ | refine jD ?_ | refine kT ?_ | refine jT ?_ | refine kQ ?_ | refine jQ ?_ | refine kAo ?_ | refine jAp ?_ | refine kAr ?_ | refine kMk ?_ | refine jAr ?_ | refine kAn ?_ | refine jAm ?_ | refine kW ?_ | refine jW ?_ | refine kG ?_ | refine jG ?_ | refine kL ?_ | refine jL ?_ | refine kJ ?_ | refine jJ ?_))
theorem take_int {n : Int} {s : List Int} {l : List Tx} (h0 : -1099511627776 ≤ n) (h1 : n ≤ 1099511627776) (hv : vmayF s l = true) : C.run (.call 49 [vD [] [intT n], vD s l] []) = some (.done (takeR n 0 s l) []) := by
  have := MTake [] s [intT n] l (may_scalar (may_small h0 h1)) hv
  rwa [show intFv [] [intT n] = (n, 0) from oneF_int h0 h1] at this
theorem drop_int {n : Int} {s : List Int} {l : List Tx} (h0 : -1099511627776 ≤ n) (h1 : n ≤ 1099511627776) (hv : vmayF s l = true) : C.run (.call 50 [vD [] [intT n], vD s l] []) = some (.done (dropR n 0 s l) []) := by
  have := MDrop [] s [intT n] l (may_scalar (may_small h0 h1)) hv
  rwa [show intFv [] [intT n] = (n, 0) from oneF_int h0 h1] at this
theorem take_over {w : Int} {t : List Int} {l : List Tx} (h0 : 0 ≤ w) (h1 : w ≤ 1099511627776) (hv : vmayF (w :: t) l = true) : ∃ o : Int, o ≠ 0 ∧ C.run (.call 49 [vD [] [intT (w + 1)], vD (w :: t) l] []) = some (.done (errV o) []) := by
  by_cases hw : w = 1099511627776
  · subst hw
    have hmay : mayT (intT (1099511627776 + 1)) = true := by
      refine (mayT_iff _).2 ⟨by rw [tv_intT], ?_⟩
      rw [tv_intT]
      have h2 : (1099511627776 + 1 : Int).natAbs < 10 ^ 13 := by decide
      exact Nat.lt_of_lt_of_le h2 (Nat.pow_le_pow_right (by decide) (by decide))
    have := MTake [] (1099511627776 :: t) [intT (1099511627776 + 1)] l (may_scalar hmay) hv
    have hn : numI (intT (1099511627776 + 1)) = (1099511627776 + 1, true) := by
      unfold numI
      rw [if_pos ⟨hmay, by rw [tv_intT]; unfold W64; decide⟩, tv_intT]
    have ho : intFv [] [intT (1099511627776 + 1)] = (0, 5) := by
      show oneF (intT (1099511627776 + 1)) = (0, 5)
      unfold oneF
      rw [hn, if_neg (by decide)]
    rw [ho] at this
    refine ⟨5, by decide, this⟩
  · have := take_int (n := w + 1) (by omega) (by omega) hv
    unfold takeR at this
    rw [if_neg (by simp), if_neg (by simp), if_pos (Or.inl (by simp; omega))] at this
    exact ⟨6, by decide, this⟩
theorem MouldCuts (v : VP) (k : Int) (hk : 0 ≤ k ∧ k ≤ 255) (hv : v.2.length ≤ 9223372036854775807) : C.run (.call 15 [vE v, .int .u8 k] []) = some (.done (.bool true) []) := by
  cases hfew : few4 v.1 v.2 with
  | false => exact C_few v k hv hfew
  | true =>
    cases hmay : vmayF v.1 v.2 with
    | false => exact C_may v k hfew hmay
    | true =>
      obtain ⟨s, l⟩ := v
      cases s with
      | nil => exact C_nil l k hfew hmay
      | cons w t =>
        dsimp only at hfew hmay
        have ok := vmay_ok hmay
        have hsm := ok.small
        have hl0 : l.length < 1000000 := hsm.2.1
        have hs0 : (w :: t).length < 1000000 := hsm.1
        have hw := ok.sh.nn w List.mem_cons_self
        have f1 := Few4 (w :: t) l (by omega)
        rw [hfew] at f1
        have hm := VMay (w :: t) l (by omega) hsm.2
        rw [hmay] at hm
        have hy := VMany (w :: t) l hs0
        have hsame := VSame (w :: t) (w :: t) l l (by omega) (by omega) (by omega) (by omega)
        rw [decide_eq_true rfl, decide_eq_true rfl] at hsame
        have hmn := foldmin w 200
        obtain ⟨M, hM⟩ : ∃ M, (if (200 : Int) < w then 200 else w) = M := ⟨_, rfl⟩
        rw [hM] at hmn
        have hM2 : 0 ≤ M ∧ M ≤ 200 ∧ M ≤ w := by
          subst hM
          split <;> omega
        obtain ⟨n, hn⟩ : ∃ n, k.tmod (M + 1) = n := ⟨_, rfl⟩
        have hn2 : 0 ≤ n ∧ n ≤ M := by
          rw [Int.tmod_eq_emod_of_nonneg hk.1] at hn
          have h1 := Int.emod_nonneg k (show M + 1 ≠ 0 by omega)
          have h2 := Int.emod_lt_of_pos k (show 0 < M + 1 by omega)
          omega
        have hrem : binD .rem (.int .i64 (IntKind.i64.wrap k)) (.int .i64 (IntKind.i64.wrap (M + 1))) = some (.int .i64 n) := by
          rw [wq k (by omega) (by omega), wq (M + 1) (by omega) (by omega)]
          exact b_rem (by omega) hn
        obtain ⟨N, rfl⟩ := Int.eq_ofNat_of_zero_le hn2.1
        obtain ⟨W, rfl⟩ := Int.eq_ofNat_of_zero_le hw.1
        have o1 := Of (N : Int) (w64_small (by omega) (by omega))
        have o2 := Of (-(N : Int)) (by unfold W64; simp; omega)
        have o3 := Of ((W : Int) + 1) (by unfold W64; simp; omega)
        have e2 : IntKind.i64.wrap (0 - (N : Int)) = -(N : Int) := by rw [wq _ (by omega) (by omega)]; omega
        have e3 : IntKind.i64.wrap ((W : Int) + 1) = (W : Int) + 1 := wq _ (by omega) (by omega)
        rw [← e2] at o2
        rw [← e3] at o3
        rw [show intT (IntKind.i64.wrap (0 - (N : Int))) = intT (-(N : Int)) by rw [e2]] at o2
        rw [show intT (IntKind.i64.wrap ((W : Int) + 1)) = intT ((W : Int) + 1) by rw [e3]] at o3
        obtain ⟨o, ho, t5⟩ := take_over hw.1 hw.2 hmay
        have t1 := take_int (n := N) (by omega) (by omega) hmay
        have t2 := drop_int (n := N) (by omega) (by omega) hmay
        have t3 := take_int (n := -N) (by omega) (by omega) hmay
        have t4 := drop_int (n := -N) (by omega) (by omega) hmay
        have hall := some_all ok
        rw [Int.toNat_natCast] at hall
        have hj1 := some_join ok (i := 0) (j := N) (k := W) (by omega) (by omega) (by omega)
        have q1 : takeR (N : Int) 0 ((W : Int) :: t) l = okV (someF ((W : Int) :: t) l 0 N) := by
          unfold takeR
          rw [if_neg (by simp), if_neg (by simp), if_neg (by simp; omega), if_neg (by omega), Int.toNat_natCast]
        have q2 : dropR (N : Int) 0 ((W : Int) :: t) l = okV (someF ((W : Int) :: t) l N W) := by
          unfold dropR
          rw [if_neg (by simp), if_neg (by simp), if_neg (by omega), Int.toNat_natCast, List.headD_cons, Int.toNat_natCast, Nat.min_eq_left (by omega)]
        rw [q1] at t1
        rw [q2] at t2
        have j1 := MJoinT (someF ((W : Int) :: t) l 0 N) (someF ((W : Int) :: t) l N W) (vmay_ok (some_may ok (by omega) (by omega))).small (vmay_ok (some_may ok (by omega) (by omega))).small
        rw [hj1, hall] at j1
        have hheads : ∀ i j : Nat, (someF ((W : Int) :: t) l i j).1.headD 1 = (j : Int) - i := fun _ _ => rfl
        have hlens : ∀ i j : Nat, (someF ((W : Int) :: t) l i j).1.length < 1000000 := fun i j => by
          show (_ :: t).length < 1000000
          simpa using hs0
        have m1 := VMany (someF ((W : Int) :: t) l 0 N).1 (someF ((W : Int) :: t) l 0 N).2 (hlens _ _)
        rw [hheads, show ((N : Nat) : Int) - ((0 : Nat) : Int) = N by omega] at m1
        by_cases hN : N = 0
        · subst hN
          have q3 : takeR (-((0 : Nat) : Int)) 0 ((W : Int) :: t) l = okV (someF ((W : Int) :: t) l 0 0) := q1
          have q4 : dropR (-((0 : Nat) : Int)) 0 ((W : Int) :: t) l = okV (someF ((W : Int) :: t) l 0 W) := q2
          rw [q3] at t3
          rw [q4] at t4
          have j2 := MJoinT (someF ((W : Int) :: t) l 0 W) (someF ((W : Int) :: t) l 0 0) (vmay_ok (some_may ok (by omega) (by omega))).small (vmay_ok (some_may ok (by omega) (by omega))).small
          exact C_fine (W : Int) t l k _ M o _ _ _ _ _ _ shown14 f1 hm hy hmn hrem o1 o2 o3 (VScalar _) (VScalar _) (VScalar _) t1 t2 t3 t4 t5 ho j1 j2 (fun h => absurd rfl h) (fun _ => ⟨rfl, rfl⟩) hsame m1 m1
        · have q3 : takeR (-(N : Int)) 0 ((W : Int) :: t) l = okV (someF ((W : Int) :: t) l (W - N) W) := by
            unfold takeR
            rw [if_neg (by simp), if_neg (by simp), if_neg (by simp; omega), if_pos (by omega), List.headD_cons, Int.toNat_natCast, show ((W : Int) + -(N : Int)).toNat = W - N by omega]
          have q4 : dropR (-(N : Int)) 0 ((W : Int) :: t) l = okV (someF ((W : Int) :: t) l 0 (W - N)) := by
            unfold dropR
            rw [if_neg (by simp), if_neg (by simp), if_pos (by omega), List.headD_cons, show ((W : Int) + -(N : Int)).toNat = W - N by omega]
          rw [q3] at t3
          rw [q4] at t4
          have hj2 := some_join ok (i := 0) (j := W - N) (k := W) (by omega) (by omega) (by omega)
          have j2 := MJoinT (someF ((W : Int) :: t) l 0 (W - N)) (someF ((W : Int) :: t) l (W - N) W) (vmay_ok (some_may ok (by omega) (by omega))).small (vmay_ok (some_may ok (by omega) (by omega))).small
          rw [hj2, hall] at j2
          have m2 := VMany (someF ((W : Int) :: t) l (W - N) W).1 (someF ((W : Int) :: t) l (W - N) W).2 (hlens _ _)
          rw [hheads, show ((W : Nat) : Int) - ((W - N : Nat) : Int) = N by omega] at m2
          exact C_fine (W : Int) t l k _ M o _ _ _ _ _ _ shown14 f1 hm hy hmn hrem o1 o2 o3 (VScalar _) (VScalar _) (VScalar _) t1 t2 t3 t4 t5 ho j1 j2 (fun _ => ⟨rfl, rfl⟩) (fun h => absurd h (by omega)) hsame m1 m2
theorem lawMouldCuts (s1 : List Int) (_ : s1.length ≤ maxLen ∧ ∀ x ∈ s1, (Lit.int .i64 x).wf = true) (l1 : List Tx) (k1 : l1.length ≤ maxLen ∧ ∀ x ∈ l1, x.length ≤ maxLen) (n : Int) (hn : (Lit.int .u8 n).wf = true) : C.run (.call 15 [vD s1 l1, .int .u8 n] []) = some (.done (.bool true) []) := by
  have hmin : IntKind.u8.min = 0 := rfl
  have hmax : IntKind.u8.max = 255 := rfl
  simp only [Lit.wf, Bool.and_eq_true, decide_eq_true_eq] at hn
  exact MouldCuts (s1, l1) n ⟨by omega, by omega⟩ k1.1
end Go.Proofs.YthcijldahbalcaaDoor.Q
end
section
namespace Go.Proofs.YthcijldahbalcaaDoor.mouldCuts
open Go.ChangeShapes Go.WideShapes Go.ChangeAt Go.RowKit Go.PM
open Go.ChangeMaps (open_string shut_string)
set_option linter.unusedVariables false
theorem own : ownKnob Tryd.prog.godebug = none := by kernel_rfl
theorem laidOut : laidOutB Tryd.prog = true := by kernel_rfl
set_option maxRecDepth 100000 in
theorem lifted (os : Os) (started : os.Started) (H : Type) (enc : TypeId × Value → H) :
    ReturnsInHanded {} Tryd.checked os 15 .any (fun w args => (Rows.mouldCutsSpec.pre enc Tryd.prog Tryd.f15 [] false w args ∧ laidMetH Tryd.prog Rows.mouldCutsRow.laid w) ∧ sizedMet enc Tryd.prog Tryd.f15 (OpenSpec.ofChange Rows.mouldCutsSpec) false w args) (Rows.mouldCutsSpec.post enc Tryd.prog Tryd.f15 false true false false) := by
  refine returnsInHanded_of_change_and (C := Tryd.checked) (X := (fun w _ => laidMetH Tryd.prog Rows.mouldCutsRow.laid w)) (fun _ _ _ hh h => h.of_heap hh) own started (by kernel_rfl) Tryd.func15
    (ChangeSpec.witness_shaped (enc := enc) (C := Tryd.checked) (os := os) (X := (fun w _ => laidMetH Tryd.prog Rows.mouldCutsRow.laid w)) false (World.laidAll Tryd.prog os Rows.mouldCutsRow.laid) #[.agg #[.slice none 0 0, .slice none 0 0], .int .u8 0] 8 (World.laidAll_os _ _ _)
      (World.shaped_of_ZipB (by kernel_rfl) (by kernel_rfl)) (by kernel_rfl) (by kernel_rfl) (by kernel_rfl)
      (by rw [MakeChecks.laidMetH_plain _ _ _ (by kernel_rfl)]; exact laidMet_laidAll _ (by kernel_rfl) (by kernel_rfl))) ?_
  intro W base args ds gs before hval0 hW hcnd hsz0 hL _
  have hG : GlobRel Q.C W (fun _ => False) := Q.globs (by rw [MakeChecks.laidMetH_plain _ _ _ (by kernel_rfl)] at hL; exact hL)
  have hval : ∀ (j : Nat) t v, Tryd.f15.params[j]? = some t → args[j]? = some v → Value.okWide Tryd.prog W .any base t v := hval0
  have hW' := hW
  obtain ⟨p, q, hA0, hV, rfl, hfz, hnd⟩ := hW
  have hA : DataW.TrodAll enc Tryd.prog W 0 (fun _ => true) true Tryd.f15.params.toList args.toList ds p := hA0
  rw [Tryd.params15] at hA hval
  obtain ⟨v0, vs0, d0, ds0, p0, q0, hargs, rfl, rfl, h0, r0⟩ := trodAll_cons hA
  obtain ⟨v1, vs1, d1, ds1, p1, q1, rfl, rfl, rfl, h1, r1⟩ := trodAll_cons r0
  obtain ⟨rfl, rfl, rfl⟩ := trodAll_nil r1
  obtain rfl : args = #[v0, v1] := by cases args; simp_all
  obtain ⟨rfl, rfl⟩ := trodVars_none hV
  have hN : ∀ b, ¬ (fun _ : Nat => False) b := fun _ h => h
  have k0 := h0
  have lt0 := trod_places h0
  obtain ⟨a0, rep0, w0⟩ := arg_agg (N := fun _ => False) Tryd.underlying25 (reads_struct Tryd.underlying25 (by kernel_rfl) (readsF_cons (by kernel_rfl) (by kernel_rfl) (reads_slice Tryd.underlying22 (by kernel_rfl) (by decide) hN (reads_int Tryd.underlying3)) (readsF_last (by kernel_rfl) (by kernel_rfl) (reads_slice Tryd.underlying23 (by kernel_rfl) (by decide) hN (reads_string Tryd.underlying9))))) (hval 0 25 v0 rfl rfl) h0
  obtain ⟨a1, rfl, rfl, rfl, w1⟩ := open_int Tryd.underlying5 (hval 1 5 v1 rfl rfl) h1
  refine (law_told Q.ok (Q.lawMouldCuts (a0.1) (w0.1) (a0.2) (w0.2) a1 w1) hG (argL_cons rep0 (argL_cons rfl argL_nil))).mono fun e W' hpost => ?_
  obtain ⟨he, bel⟩ := hpost
  subst he
  exact ⟨_, rfl, _, _, _, [], _, [], hW', trodAll_mk1 (shut_bool Tryd.underlying4 _), (trodAll_cons_mk (Below.trod laidOut (by kernel_rfl) (of_decide_eq_true (by kernel_rfl)) k0 bel lt0) (trodAll_cons_mk (shut_int Tryd.underlying5 w1) trodAll_mk0)), rfl, bel.frame _, fun h => by cases h⟩
theorem over : Rows.mouldCutsRow.holds Tryd.pinned (OpenSpec.ofChange Rows.mouldCutsSpec) :=
  OpenClaim.holds_of_wide 15 Tryd.f15 rfl rfl rfl rfl rfl rfl rfl ⟨rfl, rfl, rfl, rfl, rfl⟩ rfl rfl rfl rfl rfl (by kernel_rfl) Tryd.func15 (by kernel_rfl)
    (of_decide_eq_true (by kernel_rfl)) (by unfold Func.isWrapper; first | (rw [if_pos (by decide +kernel)]; kernel_rfl) | (rw [if_neg (by decide +kernel)]; exact ⟨rfl, rfl⟩))
    (fun os started H enc _ => lifted os started H enc)
theorem card : Rows.MouldCutsCardSaid :=
  Claim7.holds_tied_plain_at .later [] [.data, .data, .data, .sentinel, .sentinel] true (true, "777803f5cc2650144c63029cddcac2ae55c749573dd844dc304ba8bf68817a60") true over (fun _ h => by cases h) (by kernel_rfl) (fun _ h => by cases h) mouldCuts_row_tie rfl ⟨rfl, rfl⟩ (by kernel_rfl) rfl
    (fun f fn hf hfn => by
      obtain rfl : f = 15 := Option.some.inj ((show Tryd.prog.funcNamed Rows.mouldCutsRow.func = some 15 by kernel_rfl).symm.trans hf) |>.symm
      obtain rfl : fn = Tryd.f15 := (Option.some.inj (Tryd.func15.symm.trans hfn)).symm
      exact ⟨by kernel_rfl, fun j t ht => by
        have hm : t ∈ Tryd.f15.params.toList := by simpa using Array.mem_of_getElem? ht
        have hall : (Tryd.f15.params.toList.all fun u => !Tryd.prog.wantsStandIn u) = true := by kernel_rfl
        exact (show Tryd.prog.wantsStandIn t = false by simpa using List.all_eq_true.1 hall t hm)⟩)
    (by kernel_rfl)
#print axioms card
end Go.Proofs.YthcijldahbalcaaDoor.mouldCuts
namespace Go.Proofs.YthcijldahbalcaaDoor
theorem mouldCuts_holds : Rows.MouldCutsCardSaid := mouldCuts.card
end Go.Proofs.YthcijldahbalcaaDoor
end
