/- The law MouldTwice: its row and its card, proved; all that it rests on stands in the texts ahead of it. No conditions. -/
import Derived.Test.YthcijldahbalcaaDoorKMouldTwice5
import Derived.Shelf.Strconv.Itoa0
import Derived.Shelf.Strconv.Itoa1
import Derived.Shelf.LaysM
import Derived.Shelf.Strconv.Itoa2
import Derived.Shelf.Strconv.Itoa3
import Derived.Shelf.Strconv.Itoa4
import Derived.Shelf.Strconv.ParseIntEmpty
import Derived.Shelf.Strconv.Clone
import Derived.Shelf.Strconv.SyntaxError
import Derived.Shelf.LaysC
import Derived.Shelf.Strconv.ToError
import Derived.Shelf.Strconv.Lower
import Derived.Shelf.Strconv.ParseUint10
import Derived.Shelf.Strconv.ParseUint10Empty
import Derived.Shelf.Strconv.ParseUint10Any
import Derived.Shelf.Strconv.ParseInt10
import Derived.Shelf.Strconv.RangeError
import Derived.Shelf.Strconv.ToErrorRange
import Derived.Shelf.Strconv.ParseUintEmpty
import Derived.Shelf.Strconv.ParseUint10b64
import Derived.Shelf.Strconv.ParseUint10b32
import Derived.Shelf.Strconv.ParseUint10b16
import Derived.Shelf.Strconv.ParseUint10b8
import Derived.Shelf.Strconv.ParseUint10At
import Derived.Shelf.Strconv.ParseInt10At64
import Derived.Shelf.Strconv.ParseInt10At32
import Derived.Shelf.Strconv.ParseInt10At16
import Derived.Shelf.Strconv.ParseInt10At8
import Derived.Shelf.Strconv.ParseInt10All
import Derived.Shelf.Strconv.ParseIntPublic10
import Derived.Shelf.Strconv.ErrVarParseInt
import Derived.Shelf.GgClosure.StringsIndexFunc
import Derived.Ground.GgwProg
import Derived.Shelf.GgClosure.StringsIndexFuncTop
import Derived.Shelf.GgClosure.StringsRunes
import Derived.Shelf.Strings.Prefix
import Derived.Shelf.Strings.FuncGrows
import Derived.Shelf.Slices.Turned
import Derived.Shelf.Slices.Reverse
import Derived.Ground.Names2Prog
import Derived.Shelf.Slices.Clone
import Derived.Shelf.Slices.Cells
import Derived.Ground.SlgnProg
import Derived.Shelf.SlicesE.Clone
import Derived.Test.YthcijldahbalcaaDoorProg
import Derived.Lib.AtoiErrMem
import Derived.Lib.AppendIntMem
import Derived.Test.YthcijldahbalcaaDoorRows
import Derived.Stop.LaidErr
import Derived.Lib.LaidTab
import Derived.Test.YthcijldahbalcaaDoorTie
import Derived.Test.YthcijldahbalcaaDoorCards
import Derived.WideLaws
import Derived.ProofKit
import Derived.OpenShut
import Derived.ShutString
import Derived.ChangeOld
import Derived.SizedLaws
import Derived.ChangeSlices
import Derived.Handed
import Derived.MakeChecks
import Derived.Lay
import Derived.LaidOnce
import Derived.SevenTiedAt
import Derived.Deep.Slices
set_option linter.unusedVariables false
set_option linter.unusedSimpArgs false
section
namespace Go.Proofs
open Go.Shelf
def Tryd.laysM173_ren : Go.Shelf.Ren := ⟨fun | 173 => 76 | 246 => 106 | 283 => 123 | 284 => 124 | 285 => 125 | 286 => 126 | 129 => 143 | 317 => 142 | 318 => 144 | 319 => 145 | 320 => 146 | 337 => 157 | 338 => 158 | n => n, fun | 2 => 2 | 3 => 3 | 9 => 9 | 4 => 4 | 171 => 142 | 0 => 0 | 53 => 143 | 37 => 118 | 5 => 5 | 173 => 146 | 212 => 161 | 51 => 162 | 20 => 20 | 213 => 163 | 46 => 123 | 232 => 177 | 233 => 178 | n => n, fun | 17 => 0 | 18 => 3 | 19 => 4 | n => n⟩
theorem Tryd.laysM173 : Go.Proofs.LaysM.n173 Tryd.prog Tryd.laysM173_ren := {
  mixed := by kernel_rfl
  f129 := Tryd.func143.trans (congrArg some (by kernel_rfl))
  f173 := Tryd.func76.trans (congrArg some (by kernel_rfl))
  f246 := Tryd.func106.trans (congrArg some (by kernel_rfl))
  f283 := Tryd.func123.trans (congrArg some (by kernel_rfl))
  f284 := Tryd.func124.trans (congrArg some (by kernel_rfl))
  f285 := Tryd.func125.trans (congrArg some (by kernel_rfl))
  f286 := Tryd.func126.trans (congrArg some (by kernel_rfl))
  f317 := Tryd.func142.trans (congrArg some (by kernel_rfl))
  f318 := Tryd.func144.trans (congrArg some (by kernel_rfl))
  f319 := Tryd.func145.trans (congrArg some (by kernel_rfl))
  f320 := Tryd.func146.trans (congrArg some (by kernel_rfl))
  f337 := Tryd.func157.trans (congrArg some (by kernel_rfl))
  f338 := Tryd.func158.trans (congrArg some (by kernel_rfl))
  t0 := Tryd.underlying0
  a0 := Tryd.isAgg0
  z0 := Tryd.sizeOf0
  v0 := Tryd.zeroValue0
  t2 := Tryd.underlying2
  a2 := Tryd.isAgg2
  z2 := Tryd.sizeOf2
  v2 := Tryd.zeroValue2
  t3 := Tryd.underlying3
  a3 := Tryd.isAgg3
  z3 := Tryd.sizeOf3
  v3 := Tryd.zeroValue3
  t4 := Tryd.underlying4
  a4 := Tryd.isAgg4
  z4 := Tryd.sizeOf4
  v4 := Tryd.zeroValue4
  t5 := Tryd.underlying5
  a5 := Tryd.isAgg5
  z5 := Tryd.sizeOf5
  v5 := Tryd.zeroValue5
  t9 := Tryd.underlying9
  a9 := Tryd.isAgg9
  z9 := Tryd.sizeOf9
  v9 := Tryd.zeroValue9
  t20 := Tryd.underlying20
  a20 := Tryd.isAgg20
  z20 := Tryd.sizeOf20
  v20 := Tryd.zeroValue20
  t37 := Tryd.underlying118
  a37 := Tryd.isAgg118
  z37 := Tryd.sizeOf118
  v37 := Tryd.zeroValue118
  t46 := Tryd.underlying123
  a46 := Tryd.isAgg123
  z46 := Tryd.sizeOf123
  v46 := Tryd.zeroValue123
  t51 := Tryd.underlying162
  a51 := Tryd.isAgg162
  z51 := Tryd.sizeOf162
  v51 := Tryd.zeroValue162
  t53 := Tryd.underlying143
  a53 := Tryd.isAgg143
  z53 := Tryd.sizeOf143
  v53 := Tryd.zeroValue143
  t171 := Tryd.underlying142
  a171 := Tryd.isAgg142
  z171 := Tryd.sizeOf142
  v171 := Tryd.zeroValue142
  t173 := Tryd.underlying146
  a173 := Tryd.isAgg146
  z173 := Tryd.sizeOf146
  v173 := Tryd.zeroValue146
  t212 := Tryd.underlying161
  a212 := Tryd.isAgg161
  z212 := Tryd.sizeOf161
  v212 := Tryd.zeroValue161
  t213 := Tryd.underlying163
  a213 := Tryd.isAgg163
  z213 := Tryd.sizeOf163
  t232 := Tryd.underlying177
  a232 := Tryd.isAgg177
  z232 := Tryd.sizeOf177
  v232 := Tryd.zeroValue177
  t233 := Tryd.underlying178
  a233 := Tryd.isAgg178
  z233 := Tryd.sizeOf178
  v233 := Tryd.zeroValue178
  g17 := by kernel_rfl
  g18 := by kernel_rfl
  g19 := by kernel_rfl
  i0 := by kernel_rfl
  i2 := by kernel_rfl
  i3 := by kernel_rfl
  i4 := by kernel_rfl
  i5 := by kernel_rfl
  i9 := by kernel_rfl
  i20 := by kernel_rfl
  i37 := by kernel_rfl
  i46 := by kernel_rfl
  i51 := by kernel_rfl
  i53 := by kernel_rfl
  i171 := by kernel_rfl
  i173 := by kernel_rfl
  i212 := by kernel_rfl
  i232 := by kernel_rfl
  i233 := by kernel_rfl
  m17 := by kernel_rfl
  m18 := by kernel_rfl
  m19 := by kernel_rfl }
open Go.RowKit Go.Sort Go.Lib in
theorem Tryd.strconv_FormatInt_10 (n : Int) (h0 : -9223372036854775808 ≤ n) (h1 : n ≤ 9223372036854775807) (w : World) (htab : Lib.TabIs Tryd.prog w "internal/strconv.uint64pow10" .u64 Lib.pow10Tab) :
    Calls Tryd.prog 76 #[.int .i64 n, .int .i64 10] w fun e w' => e = .returned (.string ⟨(Lib.itoa n).toArray⟩) ∧ ∃ k os, w' = grow (w.drewN k) os := Any.strconv_FormatInt_10 Tryd.laysM173 n h0 h1 w htab
def Tryd.laysC174_ren : Go.Shelf.Ren := ⟨fun | 174 => 96 | 247 => 115 | 245 => 116 | 287 => 130 | 279 => 131 | 280 => 132 | 281 => 133 | 282 => 134 | 321 => 147 | 322 => 148 | 316 => 149 | 171 => 151 | 205 => 150 | 243 => 159 | 246 => 106 | 283 => 123 | 284 => 124 | 285 => 125 | 286 => 126 | 129 => 143 | 317 => 142 | 318 => 144 | 319 => 145 | 320 => 146 | 337 => 157 | 338 => 158 | n => n, fun | 9 => 9 | 3 => 3 | 2 => 2 | 75 => 115 | 85 => 116 | 4 => 4 | 167 => 151 | 5 => 5 | 53 => 143 | 175 => 152 | 46 => 123 | 168 => 154 | 37 => 118 | 0 => 0 | 210 => 167 | 21 => 21 | 127 => 172 | 145 => 175 | 143 => 173 | 171 => 142 | 173 => 146 | 212 => 161 | 51 => 162 | 20 => 20 | 213 => 163 | 232 => 177 | 233 => 178 | 80 => 179 | n => n, fun | 15 => 1 | 16 => 2 | 17 => 0 | 18 => 3 | 19 => 4 | n => n⟩
theorem Tryd.laysC174 : Go.Proofs.LaysC.n174 Tryd.prog Tryd.laysC174_ren := {
  mixed := by kernel_rfl
  f129 := Tryd.func143.trans (congrArg some (by kernel_rfl))
  f171 := Tryd.func151.trans (congrArg some (by kernel_rfl))
  f174 := Tryd.func96.trans (congrArg some (by kernel_rfl))
  f205 := Tryd.func150.trans (congrArg some (by kernel_rfl))
  f243 := Tryd.func159.trans (congrArg some (by kernel_rfl))
  f245 := Tryd.func116.trans (congrArg some (by kernel_rfl))
  f246 := Tryd.func106.trans (congrArg some (by kernel_rfl))
  f247 := Tryd.func115.trans (congrArg some (by kernel_rfl))
  f279 := Tryd.func131.trans (congrArg some (by kernel_rfl))
  f280 := Tryd.func132.trans (congrArg some (by kernel_rfl))
  f281 := Tryd.func133.trans (congrArg some (by kernel_rfl))
  f282 := Tryd.func134.trans (congrArg some (by kernel_rfl))
  f283 := Tryd.func123.trans (congrArg some (by kernel_rfl))
  f284 := Tryd.func124.trans (congrArg some (by kernel_rfl))
  f285 := Tryd.func125.trans (congrArg some (by kernel_rfl))
  f286 := Tryd.func126.trans (congrArg some (by kernel_rfl))
  f287 := Tryd.func130.trans (congrArg some (by kernel_rfl))
  f316 := Tryd.func149.trans (congrArg some (by kernel_rfl))
  f317 := Tryd.func142.trans (congrArg some (by kernel_rfl))
  f318 := Tryd.func144.trans (congrArg some (by kernel_rfl))
  f319 := Tryd.func145.trans (congrArg some (by kernel_rfl))
  f320 := Tryd.func146.trans (congrArg some (by kernel_rfl))
  f321 := Tryd.func147.trans (congrArg some (by kernel_rfl))
  f322 := Tryd.func148.trans (congrArg some (by kernel_rfl))
  f337 := Tryd.func157.trans (congrArg some (by kernel_rfl))
  f338 := Tryd.func158.trans (congrArg some (by kernel_rfl))
  t0 := Tryd.underlying0
  a0 := Tryd.isAgg0
  z0 := Tryd.sizeOf0
  v0 := Tryd.zeroValue0
  t2 := Tryd.underlying2
  a2 := Tryd.isAgg2
  z2 := Tryd.sizeOf2
  v2 := Tryd.zeroValue2
  t3 := Tryd.underlying3
  a3 := Tryd.isAgg3
  z3 := Tryd.sizeOf3
  v3 := Tryd.zeroValue3
  t4 := Tryd.underlying4
  a4 := Tryd.isAgg4
  z4 := Tryd.sizeOf4
  v4 := Tryd.zeroValue4
  t5 := Tryd.underlying5
  a5 := Tryd.isAgg5
  z5 := Tryd.sizeOf5
  v5 := Tryd.zeroValue5
  t9 := Tryd.underlying9
  a9 := Tryd.isAgg9
  z9 := Tryd.sizeOf9
  v9 := Tryd.zeroValue9
  t20 := Tryd.underlying20
  a20 := Tryd.isAgg20
  z20 := Tryd.sizeOf20
  v20 := Tryd.zeroValue20
  t21 := Tryd.underlying21
  a21 := Tryd.isAgg21
  z21 := Tryd.sizeOf21
  v21 := Tryd.zeroValue21
  t37 := Tryd.underlying118
  a37 := Tryd.isAgg118
  z37 := Tryd.sizeOf118
  v37 := Tryd.zeroValue118
  t46 := Tryd.underlying123
  a46 := Tryd.isAgg123
  z46 := Tryd.sizeOf123
  v46 := Tryd.zeroValue123
  t51 := Tryd.underlying162
  a51 := Tryd.isAgg162
  z51 := Tryd.sizeOf162
  v51 := Tryd.zeroValue162
  t53 := Tryd.underlying143
  a53 := Tryd.isAgg143
  z53 := Tryd.sizeOf143
  v53 := Tryd.zeroValue143
  t75 := Tryd.underlying115
  a75 := Tryd.isAgg115
  z75 := Tryd.sizeOf115
  v75 := Tryd.zeroValue115
  t85 := Tryd.underlying116
  a85 := Tryd.isAgg116
  z85 := Tryd.sizeOf116
  v85 := Tryd.zeroValue116
  t127 := Tryd.underlying172
  a127 := Tryd.isAgg172
  z127 := Tryd.sizeOf172
  v127 := Tryd.zeroValue172
  t143 := Tryd.underlying173
  a143 := Tryd.isAgg173
  z143 := Tryd.sizeOf173
  v143 := Tryd.zeroValue173
  t145 := Tryd.underlying175
  a145 := Tryd.isAgg175
  z145 := Tryd.sizeOf175
  v145 := Tryd.zeroValue175
  t167 := Tryd.underlying151
  a167 := Tryd.isAgg151
  z167 := Tryd.sizeOf151
  v167 := Tryd.zeroValue151
  t168 := Tryd.underlying154
  a168 := Tryd.isAgg154
  z168 := Tryd.sizeOf154
  v168 := Tryd.zeroValue154
  t171 := Tryd.underlying142
  a171 := Tryd.isAgg142
  z171 := Tryd.sizeOf142
  v171 := Tryd.zeroValue142
  t173 := Tryd.underlying146
  a173 := Tryd.isAgg146
  z173 := Tryd.sizeOf146
  v173 := Tryd.zeroValue146
  t175 := Tryd.underlying152
  a175 := Tryd.isAgg152
  z175 := Tryd.sizeOf152
  v175 := Tryd.zeroValue152
  t210 := Tryd.underlying167
  a210 := Tryd.isAgg167
  z210 := Tryd.sizeOf167
  v210 := Tryd.zeroValue167
  t212 := Tryd.underlying161
  a212 := Tryd.isAgg161
  z212 := Tryd.sizeOf161
  v212 := Tryd.zeroValue161
  t213 := Tryd.underlying163
  a213 := Tryd.isAgg163
  z213 := Tryd.sizeOf163
  t232 := Tryd.underlying177
  a232 := Tryd.isAgg177
  z232 := Tryd.sizeOf177
  v232 := Tryd.zeroValue177
  t233 := Tryd.underlying178
  a233 := Tryd.isAgg178
  z233 := Tryd.sizeOf178
  v233 := Tryd.zeroValue178
  g15 := by kernel_rfl
  g16 := by kernel_rfl
  g17 := by kernel_rfl
  g18 := by kernel_rfl
  g19 := by kernel_rfl
  t80 := Tryd.underlying179
  a80 := Tryd.isAgg179
  z80 := Tryd.sizeOf179
  v80 := Tryd.zeroValue179
  i0 := by kernel_rfl
  i2 := by kernel_rfl
  i3 := by kernel_rfl
  i4 := by kernel_rfl
  i5 := by kernel_rfl
  i9 := by kernel_rfl
  i20 := by kernel_rfl
  i21 := by kernel_rfl
  i37 := by kernel_rfl
  i46 := by kernel_rfl
  i51 := by kernel_rfl
  i53 := by kernel_rfl
  i75 := by kernel_rfl
  i80 := by kernel_rfl
  i85 := by kernel_rfl
  i127 := by kernel_rfl
  i143 := by kernel_rfl
  i145 := by kernel_rfl
  i167 := by kernel_rfl
  i168 := by kernel_rfl
  i171 := by kernel_rfl
  i173 := by kernel_rfl
  i175 := by kernel_rfl
  i210 := by kernel_rfl
  i212 := by kernel_rfl
  i232 := by kernel_rfl
  i233 := by kernel_rfl
  m15 := by kernel_rfl
  m16 := by kernel_rfl
  m17 := by kernel_rfl
  m18 := by kernel_rfl
  m19 := by kernel_rfl
  c0 := by kernel_rfl
  c2 := by kernel_rfl
  c3 := by kernel_rfl
  c4 := by kernel_rfl
  c5 := by kernel_rfl
  c9 := by kernel_rfl
  c20 := by kernel_rfl
  c21 := by kernel_rfl
  c37 := by kernel_rfl
  c46 := by kernel_rfl
  c51 := by kernel_rfl
  c53 := by kernel_rfl
  c75 := by kernel_rfl
  c80 := by kernel_rfl
  c85 := by kernel_rfl
  c127 := by kernel_rfl
  c143 := by kernel_rfl
  c145 := by kernel_rfl
  c167 := by kernel_rfl
  c168 := by kernel_rfl
  c171 := by kernel_rfl
  c173 := by kernel_rfl
  c175 := by kernel_rfl
  c210 := by kernel_rfl
  c212 := by kernel_rfl
  c213 := by kernel_rfl
  c232 := by kernel_rfl
  c233 := by kernel_rfl }
open Go.RowKit in
theorem Tryd.strconv_ParseInt_10_at64_ok (s : ByteArray) (hmax : s.size ≤ 9223372036854775806) (v : Int) (h : Lib.parseIntB 64 s.data.toList = .ok v) (w : World) :
    Calls Tryd.prog 96 #[.string s, .int .i64 10, .int .i64 64] w fun e w' => e = .returned (.tuple #[.int .i64 v, .nilIface]) ∧ (w' = w ∨ ∃ t, w' = Lib.bytesWorld w 5 t) := Any.strconv_ParseInt_10_at64_ok Tryd.laysC174 s hmax v h w
open Go.RowKit in
theorem Tryd.strconv_ParseInt_10_at64_range_var (s : ByteArray) (hlim : s.size ≤ 281474976710656) (h : Lib.parseIntB 64 s.data.toList = .range) (tp : TypeId) (p : Value) (w : World) (hvar : w.var? Tryd.prog "strconv.ErrRange" = some #[.iface tp p]) :
    Calls Tryd.prog 96 #[.string s, .int .i64 10, .int .i64 64] w fun e w' => ∃ N, e = .returned (.tuple #[.int .i64 (Lib.intSat 64 s.data.toList), .iface 154 (.pointer (some ⟨N, 0, none⟩))]) ∧ w.heap.size ≤ N ∧ w'.heap[N]? = some (.cells #[.string ⟨#[80, 97, 114, 115, 101, 73, 110, 116]⟩, .string s, .iface tp p] 167 (0, 0)) ∧ Below w.heap.size w w' := Any.strconv_ParseInt_10_at64_range_var Tryd.laysC174 s hlim h tp p w hvar
end Go.Proofs
end
section
namespace Go.Proofs.YthcijldahbalcaaDoor.Q
open Go Go.PM Go.RowKit
set_option maxRecDepth 100000
set_option maxHeartbeats 4000000
theorem var_of {w : World} {n : String} {g : Nat} {cs : Array Value} (hn : Tryd.prog.globalNamed n = some g) (h : ∃ e z, w.heap[g]? = some (.cells cs e z)) : w.var? Tryd.prog n = some cs := by
  obtain ⟨e, z, h⟩ := h
  unfold World.var?
  rw [hn]
  show (match w.heap[g]? with | some (.cells cs _ _) => some cs | _ => none) = _
  rw [h]
theorem tab_of {w : World} {N : Nat → Prop} (hG : GlobRel C w N) : Lib.TabIs Tryd.prog w "internal/strconv.uint64pow10" .u64 Lib.pow10Tab := by
  obtain ⟨_, o, ho, e, z, rfl⟩ := hG.fix 0 _ rfl
  exact var_of (by kernel_rfl) ⟨e, z, ho⟩
theorem rng_of {w : World} {N : Nat → Prop} (hG : GlobRel C w N) : ∃ tp p, w.var? Tryd.prog "strconv.ErrRange" = some #[.iface tp p] := by
  obtain ⟨_, o, ho, tp, p, e, z, rfl⟩ := hG.fix 2 _ rfl
  exact ⟨tp, p, var_of (by kernel_rfl) ⟨e, z, ho⟩⟩
theorem fmt_ok (args : List DV) (v : DV) (hs' : List (Option Blk)) (hx : fmtX args = some (v, hs')) : CallOK C 76 args [] v hs' := by
  unfold fmtX at hx
  split at hx
  · rename_i n b
    split at hx
    · rename_i hc
      obtain ⟨rfl, h0, h1⟩ := hc
      cases hx
      refine ext_below (fun w N vals hG hv => ?_) rfl
      obtain ⟨x0, r0, rfl, rfl, hv⟩ := hv
      obtain ⟨x1, r1, rfl, rfl, hv⟩ := hv
      obtain rfl : r1 = [] := hv
      refine (Tryd.strconv_FormatInt_10 n h0 h1 w (tab_of hG)).mono ?_
      rintro e w' ⟨rfl, k, os, rfl⟩
      exact ⟨_, rfl, Lib.below_grow _ _ (Nat.le_refl _) _ _, fun w N φ => ⟨_, rfl, by rw [itoa_eq, intF_eq n h0 h1]⟩⟩
    · cases hx
  · cases hx
theorem parse_ok (args : List DV) (v : DV) (hs' : List (Option Blk)) (hx : parseX 154 args = some (v, hs')) : CallOK C 96 args [] v hs' := by
  unfold parseX at hx
  split at hx
  · rename_i s b z
    split at hx
    · rename_i hc
      obtain ⟨rfl, rfl, hs⟩ := hc
      split at hx
      · rename_i n hp
        cases hx
        refine ext_below (fun w N vals hG hv => ?_) rfl
        obtain ⟨x0, r0, rfl, ⟨t, rfl, ht⟩, hv⟩ := hv
        obtain ⟨x1, r1, rfl, rfl, hv⟩ := hv
        obtain ⟨x2, r2, rfl, rfl, hv⟩ := hv
        obtain rfl : r2 = [] := hv
        have hsz : t.size = s.length := by rw [← ht]; rfl
        refine (Tryd.strconv_ParseInt_10_at64_ok t (by omega) n (by rw [ht]; exact hp) w).mono ?_
        rintro e w' ⟨rfl, hw⟩
        refine ⟨_, rfl, ?_, fun w N φ => ⟨_, rfl, _, _, rfl, rfl, _, _, rfl, rfl, rfl⟩⟩
        rcases hw with rfl | ⟨t, rfl⟩
        · exact Below.refl _ _
        · exact Lib.bytesWorld_below _ _ _
      · rename_i hp
        cases hx
        refine ext_below (fun w N vals hG hv => ?_) rfl
        obtain ⟨x0, r0, rfl, ⟨t, rfl, ht⟩, hv⟩ := hv
        obtain ⟨x1, r1, rfl, rfl, hv⟩ := hv
        obtain ⟨x2, r2, rfl, rfl, hv⟩ := hv
        obtain rfl : r2 = [] := hv
        have hsz : t.size = s.length := by rw [← ht]; rfl
        obtain ⟨tp, p, hr⟩ := rng_of hG
        refine (Tryd.strconv_ParseInt_10_at64_range_var t (by omega) (by rw [ht]; exact hp) tp p w hr).mono ?_
        rintro e w' ⟨N1, rfl, _, _, hb⟩
        refine ⟨_, rfl, hb, fun w N φ => ⟨_, rfl, _, _, rfl, by rw [ht]; rfl, _, _, rfl, ⟨_, rfl, rfl⟩, rfl⟩⟩
      · cases hx
    · cases hx
  · cases hx
theorem ok : CfgOK C := { body := ok0.body, mixed := ok0.mixed, seqs := ok0.seqs, code := ok0.code, ext := (by
  intro g x h args v hs' hx
  change (if g = 74 then some (cloneX 3 1 8) else if g = 77 then some (cloneX 9 1 16) else if g = 76 then some fmtX else if g = 96 then some (parseX 154) else none) = some x at h
  split at h
  · rename_i hg
    subst hg
    cases h
    exact cloneI_ok _ _ _ hx
  · split at h
    · rename_i _ hg
      subst hg
      cases h
      exact cloneS_ok _ _ _ hx
    · split at h
      · rename_i _ _ hg
        subst hg
        cases h
        exact fmt_ok _ _ _ hx
      · split at h
        · rename_i _ _ _ hg
          subst hg
          cases h
          exact parse_ok _ _ _ hx
        · cases h) }
end Go.Proofs.YthcijldahbalcaaDoor.Q
end
section
namespace Go.Proofs.YthcijldahbalcaaDoor.Q
open Go Go.PM Go.RowKit
set_option linter.unusedVariables false
theorem tabE : (Rows.laid_internal_strconv_uint64pow10 : DataW Unit) = Lib.tabData .u64 Lib.pow10Tab := by kernel_rfl
theorem starE : "*" ++ "errors.errorString" = "*errors.errorString" := by decide
theorem rowE (u : TypeId) (h : Tryd.prog.typeName? 3 u = some "*errors.errorString") : u = 173 :=
  typeName_ptr_named (nm := "errors.errorString") (by rw [starE]; kernel_rfl) (by kernel_rfl) (by decide) u (by rw [starE]; exact h)
theorem of_var {w : World} {n : String} {g : Nat} {cs : Array Value} (hn : Tryd.prog.globalNamed n = some g) (h : w.var? Tryd.prog n = some cs) : ∃ o, w.heap[g]? = some o ∧ ∃ e z, o = .cells cs e z := by
  unfold World.var? at h
  rw [hn] at h
  change (match w.heap[g]? with | some (.cells cs _ _) => some cs | _ => none) = some cs at h
  split at h
  · rename_i c e z ho
    cases h
    exact ⟨_, ho, e, z, rfl⟩
  · cases h
theorem globs {W : World} (h : laidMet Tryd.prog [("math/bits.deBruijn32tab", Rows.laid_math_bits_deBruijn32tab), ("math/bits.deBruijn64tab", Rows.laid_math_bits_deBruijn64tab), ("internal/strconv.uint64pow10", Rows.laid_internal_strconv_uint64pow10), ("strconv.ErrRange", Rows.laid_strconv_ErrRange), ("strconv.ErrSyntax", Rows.laid_strconv_ErrSyntax)] W) : GlobRel C W (fun _ => False) := by
  have h2 := h.tail.tail
  rw [tabE] at h2
  have ht := Lib.tabIs_of_head (g := 0) (t := 161) (e := 143) (n := 20) (by kernel_rfl) (by kernel_rfl) (by kernel_rfl) (by kernel_rfl) (by kernel_rfl) (by kernel_rfl) h2
  obtain ⟨a, s, hv, _⟩ := laid_sentinel (g := 2) (ti := 115) (tp := 173) (te := 175) (ts := 9) h.tail.tail.tail (by kernel_rfl) (by kernel_rfl) Tryd.underlying115 rowE (by kernel_rfl) Tryd.underlying175 (by kernel_rfl) (by kernel_rfl) (by kernel_rfl) (by kernel_rfl) (by kernel_rfl)
  refine ⟨fun g d hd => (by cases hd), fun g q hq => ?_⟩
  change (if g = 0 then some (fun o => ∃ e z, o = Obj.cells (Lib.pow10Tab.map fun n => Value.int .u64 n).toArray e z) else if g = 2 then some (fun o => ∃ tp p e z, o = Obj.cells #[.iface tp p] e z) else none) = some q at hq
  split at hq
  · rename_i hg
    subst hg
    cases hq
    obtain ⟨o, ho, hx⟩ := of_var (by kernel_rfl) ht
    exact ⟨fun h => h, o, ho, hx⟩
  · split at hq
    · rename_i _ hg
      subst hg
      cases hq
      obtain ⟨o, ho, e, z, hx⟩ := of_var (by kernel_rfl) hv
      exact ⟨fun h => h, o, ho, _, _, e, z, hx⟩
    · cases hq
end Go.Proofs.YthcijldahbalcaaDoor.Q
end
section
namespace Go.Proofs.YthcijldahbalcaaDoor.Q
open Go Go.PM Go.RowKit
set_option maxRecDepth 100000
set_option maxHeartbeats 2000000
theorem shown14 : C.run (.call 40 [] []) = some (.done (.bool true) []) := run_of_runN C 300 _ _ (by kernel_rfl)
theorem few_sm {s : List Int} {l : List Tx} (h : few4 s l = true) : SmV (s, l) := by
  unfold few4 fewF at h
  simp only [Bool.and_eq_true, decide_eq_true_eq] at h
  refine ⟨by dsimp only; omega, by dsimp only; omega, fun x hx => ?_⟩
  have h1 : x ∈ l.take 301 := by
    rw [List.take_of_length_le (by omega)]
    exact hx
  have := List.all_eq_true.1 h.1 x h1
  simp at this
  omega
def noV : VP := ([], [])
def jn (v w : VP) : VP × Int := if (vmayF v.1 v.2 && vmayF w.1 w.2) = true then
    (if (rowS v.1).tail.length ≠ (rowS w.1).tail.length then (noV, 3) else if (rowS v.1).tail ≠ (rowS w.1).tail then (noV, 4) else
      if (sizeF (((rowS v.1).headD 1 + (rowS w.1).headD 1) :: (rowS v.1).tail)).2 ≠ 0 then (noV, (sizeF (((rowS v.1).headD 1 + (rowS w.1).headD 1) :: (rowS v.1).tail)).2) else ((((rowS v.1).headD 1 + (rowS w.1).headD 1) :: (rowS v.1).tail, v.2 ++ w.2), 0))
  else (noV, 1)
theorem MJoinT (v w : VP) (hv : SmV v) (hw : SmV w) : C.run (.call 48 [vE v, vE w] []) = some (.done (.tuple [vE (jn v w).1, .int .i64 (jn v w).2]) []) := by
  obtain ⟨s, l⟩ := v
  obtain ⟨t, m⟩ := w
  unfold jn
  by_cases h : (vmayF s l && vmayF t m) = true
  · rw [if_pos h]
    rw [Bool.and_eq_true] at h
    have := MJoin s t l m h.1 h.2
    unfold joinR joinP at this
    refine this.trans ?_
    dsimp only
    split
    · rfl
    · split
      · rfl
      · split
        · rfl
        · rfl
  · rw [if_neg h]
    exact MJoin_no s t l m hv hw (by simpa using h)
theorem rowS_head (s : List Int) : (rowS s).headD 1 = s.headD 1 := by cases s <;> rfl
theorem rowS_prod {s : List Int} {l : List Tx} (ok : VOK s l) : (l.length : Int) = (rowS s).headD 1 * prodI (rowS s).tail := by
  have := ok.len
  cases s with
  | nil => simpa [rowS, prodI] using this
  | cons a t => exact this
structure JOK (v w : VP) (r : VP) : Prop where
  ok1 : VOK v.1 v.2
  ok2 : VOK w.1 w.2
  tl : (rowS v.1).tail = (rowS w.1).tail
  eq : r = (((rowS v.1).headD 1 + (rowS w.1).headD 1) :: (rowS v.1).tail, v.2 ++ w.2)
  may : vmayF r.1 r.2 = true
theorem jn_ok {v w : VP} (h : (jn v w).2 = 0) : JOK v w (jn v w).1 := by
  unfold jn at h ⊢
  split at h
  · rename_i hm
    rw [if_pos hm]
    rw [Bool.and_eq_true] at hm
    have ok1 := vmay_ok hm.1
    have ok2 := vmay_ok hm.2
    split at h
    · cases h
    · rename_i h1
      split at h
      · cases h
      · rename_i h2
        split at h
        · rename_i h3
          exact absurd h h3
        · rename_i h3
          rw [if_neg h1, if_neg h2, if_neg h3]
          have ht : (rowS v.1).tail = (rowS w.1).tail := Classical.byContradiction h2
          refine ⟨ok1, ok2, ht, rfl, vmay_of (by simpa using h3) ?_ ?_⟩
          · have e1 := rowS_prod ok1
            have e2 := rowS_prod ok2
            rw [← ht] at e2
            dsimp only
            rw [List.length_append, prodI, Int.add_mul, ← e1, ← e2]
            omega
          · intro x hx
            rcases List.mem_append.1 hx with h | h
            · exact ok1.may x h
            · exact ok2.may x h
  · cases h
theorem jn_err {v w : VP} (h : (jn v w).2 ≠ 0) : (jn v w).1 = noV := by
  unfold jn at h ⊢
  split
  · split
    · rfl
    · split
      · rfl
      · split
        · rfl
        · rename_i h1 h2 h3 h4
          rw [if_pos h1, if_neg h2, if_neg h3, if_neg h4] at h
          exact absurd rfl h
  · rfl
theorem jn_sm (v w : VP) : SmV (jn v w).1 := by
  by_cases h : (jn v w).2 = 0
  · exact (vmay_ok (jn_ok h).may).small
  · rw [jn_err h]
    exact ⟨by simp [noV], by simp [noV, Sm]⟩
theorem J_few (v w x : VP) (hv : v.2.length ≤ 9223372036854775807) (hw : w.2.length ≤ 9223372036854775807) (hx : x.2.length ≤ 9223372036854775807) (h : (few4 v.1 v.2 && few4 w.1 w.2 && few4 x.1 x.2) = false) : C.run (.call 14 [vE v, vE w, vE x] []) = some (.done (.bool true) []) := by
  have hs := shown14
  have f1 := Few4 v.1 v.2 hv
  have f2 := Few4 w.1 w.2 hw
  have f3 := Few4 x.1 x.2 hx
  refine run_of_step _ ?_
  cases h1 : few4 v.1 v.2 with
  | false =>
    rw [h1] at f1
    refine call_told (fn := Tryd.f14) (by kernel_rfl) rfl ?_
    repeat' (first | refine wl_nil ?_ | refine wk_nil ?_ | refine wc_seq ?_ | refine kR ?_ | refine jR ?_ | refine wc_skip ?_ | refine wc_ret ?_ | refine wc_exit ?_ | refine wc_block ?_ | refine wc_scope ?_ | refine wc_label ?_ | refine wn_go ?_ | refine wn_ret ?_ | refine wn_exit ?_ | refine wx_go ?_ | refine wx_ret ?_ | refine wx_here ?_ | refine kX ?_ | (refine kF (fun ht => ?_) (fun ht => ?_) <;> first | (cases ht; done) | skip) | (refine kB (fun hb => ?_) (fun hb => ?_) <;> first | (cases hb; done) | (exact absurd hb (by decide)) | skip) | (refine jB (fun hb => ?_) (fun hb => ?_) <;> first | (cases hb; done) | (exact absurd hb (by decide)) | skip) | refine kH ?_ | refine kM ?_ | refine jM ?_ | refine kMi ?_ | refine jMi ?_ | refine kV ?_ | refine kE ?_ | refine jV ?_ | refine jE ?_ | refine kN ?_ | refine jN ?_ | refine kC ?_ | refine kSh ?_ | refine jC ?_ | refine kI ?_ | refine jI ?_ | refine kS ?_ | refine jS ?_ | refine kP ?_ | refine jP ?_ | refine kD ?_ | refine jD ?_ | refine kT ?_ | refine jT ?_ | refine kQ ?_ | refine jQ ?_ | refine kAo ?_ | refine jAp ?_ | refine kAr ?_ | refine kMk ?_ | refine jAr ?_ | refine kAn ?_ | refine jAm ?_ | refine kW ?_ | refine jW ?_ | refine kG ?_ | refine jG ?_ | refine kL ?_ | refine jL ?_ | refine kJ ?_ | refine jJ ?_)
    exact eq_ret rfl rfl
  | true =>
    rw [h1] at f1 h
    cases h2 : few4 w.1 w.2 with
    | false =>
      rw [h2] at f2
      refine call_told (fn := Tryd.f14) (by kernel_rfl) rfl ?_
      repeat' (first | refine wl_nil ?_ | refine wk_nil ?_ | refine wc_seq ?_ | refine kR ?_ | refine jR ?_ | refine wc_skip ?_ | refine wc_ret ?_ | refine wc_exit ?_ | refine wc_block ?_ | refine wc_scope ?_ | refine wc_label ?_ | refine wn_go ?_ | refine wn_ret ?_ | refine wn_exit ?_ | refine wx_go ?_ | refine wx_ret ?_ | refine wx_here ?_ | refine kX ?_ | (refine kF (fun ht => ?_) (fun ht => ?_) <;> first | (cases ht; done) | skip) | (refine kB (fun hb => ?_) (fun hb => ?_) <;> first | (cases hb; done) | (exact absurd hb (by decide)) | skip) | (refine jB (fun hb => ?_) (fun hb => ?_) <;> first | (cases hb; done) | (exact absurd hb (by decide)) | skip) | refine kH ?_ | refine kM ?_ | refine jM ?_ | refine kMi ?_ | refine jMi ?_ | refine kV ?_ | refine kE ?_ | refine jV ?_ | refine jE ?_ | refine kN ?_ | refine jN ?_ | refine kC ?_ | refine kSh ?_ | refine jC ?_ | refine kI ?_ | refine jI ?_ | refine kS ?_ | refine jS ?_ | refine kP ?_ | refine jP ?_ | refine kD ?_ | refine jD ?_ | refine kT ?_ | refine jT ?_ | refine kQ ?_ | refine jQ ?_ | refine kAo ?_ | refine jAp ?_ | refine kAr ?_ | refine kMk ?_ | refine jAr ?_ | refine kAn ?_ | refine jAm ?_ | refine kW ?_ | refine jW ?_ | refine kG ?_ | refine jG ?_ | refine kL ?_ | refine jL ?_ | refine kJ ?_ | refine jJ ?_)
      exact eq_ret rfl rfl
    | true =>
      rw [h2] at f2 h
      rw [show few4 x.1 x.2 = false from h] at f3
      refine call_told (fn := Tryd.f14) (by kernel_rfl) rfl ?_
      repeat' (first | refine wl_nil ?_ | refine wk_nil ?_ | refine wc_seq ?_ | refine kR ?_ | refine jR ?_ | refine wc_skip ?_ | refine wc_ret ?_ | refine wc_exit ?_ | refine wc_block ?_ | refine wc_scope ?_ | refine wc_label ?_ | refine wn_go ?_ | refine wn_ret ?_ | refine wn_exit ?_ | refine wx_go ?_ | refine wx_ret ?_ | refine wx_here ?_ | refine kX ?_ | (refine kF (fun ht => ?_) (fun ht => ?_) <;> first | (cases ht; done) | skip) | (refine kB (fun hb => ?_) (fun hb => ?_) <;> first | (cases hb; done) | (exact absurd hb (by decide)) | skip) | (refine jB (fun hb => ?_) (fun hb => ?_) <;> first | (cases hb; done) | (exact absurd hb (by decide)) | skip) | refine kH ?_ | refine kM ?_ | refine jM ?_ | refine kMi ?_ | refine jMi ?_ | refine kV ?_ | refine kE ?_ | refine jV ?_ | refine jE ?_ | refine kN ?_ | refine jN ?_ | refine kC ?_ | refine kSh ?_ | refine jC ?_ | refine kI ?_ | refine jI ?_ | refine kS ?_ | refine jS ?_ | refine kP ?_ | refine jP ?_ | refine kD ?_ | refine jD ?_ | refine kT ?_ | refine jT ?_ | refine kQ ?_ | refine jQ ?_ | refine kAo ?_ | refine jAp ?_ | refine kAr ?_ | refine kMk ?_ | refine jAr ?_ | refine kAn ?_ | refine jAm ?_ | refine kW ?_ | refine jW ?_ | refine kG ?_ | refine jG ?_ | refine kL ?_ | refine jL ?_ | refine kJ ?_ | refine jJ ?_)
      exact eq_ret rfl rfl
theorem J_err (v w x : VP) (hv : few4 v.1 v.2 = true) (hw : few4 w.1 w.2 = true) (hx : few4 x.1 x.2 = true) (a b c d : VP) (e f g h : Int) (j1 : C.run (.call 48 [vE v, vE w] []) = some (.done (.tuple [vE a, .int .i64 e]) [])) (j2 : C.run (.call 48 [vE w, vE x] []) = some (.done (.tuple [vE b, .int .i64 f]) []))
    (j3 : C.run (.call 48 [vE a, vE x] []) = some (.done (.tuple [vE c, .int .i64 g]) [])) (j4 : C.run (.call 48 [vE v, vE b] []) = some (.done (.tuple [vE d, .int .i64 h]) [])) (he : e ≠ 0 → a = noV) (hne : e ≠ 0 ∨ f ≠ 0 ∨ g ≠ 0 ∨ h ≠ 0) : C.run (.call 14 [vE v, vE w, vE x] []) = some (.done (.bool true) []) := by
  have hs := shown14
  have f1 := Few4 v.1 v.2 (by have h0 : v.2.length < 1000000 := (few_sm hv).2.1; omega)
  have f2 := Few4 w.1 w.2 (by have h0 : w.2.length < 1000000 := (few_sm hw).2.1; omega)
  have f3 := Few4 x.1 x.2 (by have h0 : x.2.length < 1000000 := (few_sm hx).2.1; omega)
  rw [hv] at f1
  rw [hw] at f2
  rw [hx] at f3
  have hsm := VSame [] [] [] [] (by simp) (by simp) (by simp) (by simp)
  clear hv hw hx
  refine run_of_step _ ?_
  by_cases he0 : e = 0
  · subst he0
    clear he
    refine call_told (fn := Tryd.f14) (by kernel_rfl) rfl ?_
    repeat' (first | (exact eq_ret rfl rfl) | (exfalso; simp at hb; done) | (exfalso; simp_all; done) | (first | refine wl_nil ?_ | refine wk_nil ?_ | refine wc_seq ?_ | refine kR ?_ | refine jR ?_ | refine wc_skip ?_ | refine wc_ret ?_ | refine wc_exit ?_ | refine wc_block ?_ | refine wc_scope ?_ | refine wc_label ?_ | refine wn_go ?_ | refine wn_ret ?_ | refine wn_exit ?_ | refine wx_go ?_ | refine wx_ret ?_ | refine wx_here ?_ | refine kX ?_ | (refine kF (fun ht => ?_) (fun ht => ?_) <;> first | (cases ht; done) | skip) | (refine kB (fun hb => ?_) (fun hb => ?_) <;> first | (cases hb; done) | (exact absurd hb (by decide)) | skip) | (refine jB (fun hb => ?_) (fun hb => ?_) <;> first | (cases hb; done) | (exact absurd hb (by decide)) | skip) | refine kH ?_ | refine kM ?_ | refine jM ?_ | refine kMi ?_ | refine jMi ?_ | refine kV ?_ | refine kE ?_ | refine jV ?_ | refine jE ?_ | refine kN ?_ | refine jN ?_ | refine kC ?_ | refine kSh ?_ | refine jC ?_ | refine kI ?_ | refine jI ?_ | refine kS ?_ | refine jS ?_ | refine kP ?_ | refine jP ?_ | refine kD ?_ | refine jD ?_ | refine kT ?_ | refine jT ?_ | refine kQ ?_ | refine jQ ?_ | refine kAo ?_ | refine jAp ?_ | refine kAr ?_ | refine kMk ?_ | refine jAr ?_ | refine kAn ?_ | refine jAm ?_ | refine kW ?_ | refine jW ?_ | refine kG ?_ | refine jG ?_ | refine kL ?_ | refine jL ?_ | refine kJ ?_ | refine jJ ?_))
  · obtain rfl := he he0
    refine call_told (fn := Tryd.f14) (by kernel_rfl) rfl ?_
    repeat' (first | (exact eq_ret rfl rfl) | (exfalso; simp at hb; omega) | (exfalso; simp at hb; done) | (first | refine wl_nil ?_ | refine wk_nil ?_ | refine wc_seq ?_ | refine kR ?_ | refine jR ?_ | refine wc_skip ?_ | refine wc_ret ?_ | refine wc_exit ?_ | refine wc_block ?_ | refine wc_scope ?_ | refine wc_label ?_ | refine wn_go ?_ | refine wn_ret ?_ | refine wn_exit ?_ | refine wx_go ?_ | refine wx_ret ?_ | refine wx_here ?_ | refine kX ?_ | (refine kF (fun ht => ?_) (fun ht => ?_) <;> first | (cases ht; done) | skip) | (refine kB (fun hb => ?_) (fun hb => ?_) <;> first | (cases hb; done) | (exact absurd hb (by decide)) | skip) | (refine jB (fun hb => ?_) (fun hb => ?_) <;> first | (cases hb; done) | (exact absurd hb (by decide)) | skip) | refine kH ?_ | refine kM ?_ | refine jM ?_ | refine kMi ?_ | refine jMi ?_ | refine kV ?_ | refine kE ?_ | refine jV ?_ | refine jE ?_ | refine kN ?_ | refine jN ?_ | refine kC ?_ | refine kSh ?_ | refine jC ?_ | refine kI ?_ | refine jI ?_ | refine kS ?_ | refine jS ?_ | refine kP ?_ | refine jP ?_ | refine kD ?_ | refine jD ?_ | refine kT ?_ | refine jT ?_ | refine kQ ?_ | refine jQ ?_ | refine kAo ?_ | refine jAp ?_ | refine kAr ?_ | refine kMk ?_ | refine jAr ?_ | refine kAn ?_ | refine jAm ?_ | refine kW ?_ | refine jW ?_ | refine kG ?_ | refine jG ?_ | refine kL ?_ | refine jL ?_ | refine kJ ?_ | refine jJ ?_))
theorem J_fine (v w x : VP) (hv : few4 v.1 v.2 = true) (hw : few4 w.1 w.2 = true) (hx : few4 x.1 x.2 = true) (a b c : VP) (j1 : C.run (.call 48 [vE v, vE w] []) = some (.done (.tuple [vE a, .int .i64 0]) [])) (j2 : C.run (.call 48 [vE w, vE x] []) = some (.done (.tuple [vE b, .int .i64 0]) []))
    (j3 : C.run (.call 48 [vE a, vE x] []) = some (.done (.tuple [vE c, .int .i64 0]) [])) (j4 : C.run (.call 48 [vE v, vE b] []) = some (.done (.tuple [vE c, .int .i64 0]) [])) (hc : vmayF c.1 c.2 = true) (hn : c.1.headD 1 = IntKind.i64.wrap (IntKind.i64.wrap (v.1.headD 1 + w.1.headD 1) + x.1.headD 1)) : C.run (.call 14 [vE v, vE w, vE x] []) = some (.done (.bool true) []) := by
  have hs := shown14
  have s1 := few_sm hv
  have s2 := few_sm hw
  have s3 := few_sm hx
  have f1 := Few4 v.1 v.2 (by have h0 : v.2.length < 1000000 := s1.2.1; omega)
  have f2 := Few4 w.1 w.2 (by have h0 : w.2.length < 1000000 := s2.2.1; omega)
  have f3 := Few4 x.1 x.2 (by have h0 : x.2.length < 1000000 := s3.2.1; omega)
  rw [hv] at f1
  rw [hw] at f2
  rw [hx] at f3
  have ok := (vmay_ok hc).small
  have hsm := VSame c.1 c.1 c.2 c.2 (by have h0 : c.1.length < 1000000 := ok.1; omega) (by have h0 : c.1.length < 1000000 := ok.1; omega) (by have h0 : c.2.length < 1000000 := ok.2.1; omega) (by have h0 : c.2.length < 1000000 := ok.2.1; omega)
  rw [decide_eq_true rfl, decide_eq_true rfl] at hsm
  have m1 := VMany v.1 v.2 s1.1
  have m2 := VMany w.1 w.2 s2.1
  have m3 := VMany x.1 x.2 s3.1
  have m4 := VMany c.1 c.2 ok.1
  have hmy := VMay c.1 c.2 (by have h0 : c.1.length < 1000000 := ok.1; omega) ok.2
  rw [hc] at hmy
  clear hv hw hx s1 s2 s3 ok hc
  refine run_of_step _ ?_
  refine call_told (fn := Tryd.f14) (by kernel_rfl) rfl ?_
  repeat' (first | (exact eq_ret rfl rfl) | (exfalso; rw [hn] at hb; simp at hb; done) | (exfalso; simp at hb; done) | (first | refine wl_nil ?_ | refine wk_nil ?_ | refine wc_seq ?_ | refine kR ?_ | refine jR ?_ | refine wc_skip ?_ | refine wc_ret ?_ | refine wc_exit ?_ | refine wc_block ?_ | refine wc_scope ?_ | refine wc_label ?_ | refine wn_go ?_ | refine wn_ret ?_ | refine wn_exit ?_ | refine wx_go ?_ | refine wx_ret ?_ | refine wx_here ?_ | refine kX ?_ | (refine kF (fun ht => ?_) (fun ht => ?_) <;> first | (cases ht; done) | skip) | (refine kB (fun hb => ?_) (fun hb => ?_) <;> first | (cases hb; done) | (exact absurd hb (by decide)) | skip) | (refine jB (fun hb => ?_) (fun hb => ?_) <;> first | (cases hb; done) | (exact absurd hb (by decide)) | skip) | refine kH ?_ | refine kM ?_ | refine jM ?_ | refine kMi ?_ | refine jMi ?_ | refine kV ?_ | refine kE ?_ | refine jV ?_ | refine jE ?_ | refine kN ?_ | refine jN ?_ | refine kC ?_ | refine kSh ?_ | refine jC ?_ | refine kI ?_ | refine jI ?_ | refine kS ?_ | refine jS ?_ | refine kP ?_ | refine jP ?_ | refine kD ?_ | refine jD ?_ | refine kT ?_ | refine jT ?_ | refine kQ ?_ | refine jQ ?_ | refine kAo ?_ | refine jAp ?_ | refine kAr ?_ | refine kMk ?_ | refine jAr ?_ | refine kAn ?_ | refine jAm ?_ | refine kW ?_ | refine jW ?_ | refine kG ?_ | refine jG ?_ | refine kL ?_ | refine jL ?_ | refine kJ ?_ | refine jJ ?_))
theorem MouldJoins (v w x : VP) (hv : v.2.length ≤ 9223372036854775807) (hw : w.2.length ≤ 9223372036854775807) (hx : x.2.length ≤ 9223372036854775807) : C.run (.call 14 [vE v, vE w, vE x] []) = some (.done (.bool true) []) := by
  cases hfew : (few4 v.1 v.2 && few4 w.1 w.2 && few4 x.1 x.2) with
  | false => exact J_few v w x hv hw hx hfew
  | true =>
    simp only [Bool.and_eq_true] at hfew
    obtain ⟨⟨f1, f2⟩, f3⟩ := hfew
    have j1 := MJoinT v w (few_sm f1) (few_sm f2)
    have j2 := MJoinT w x (few_sm f2) (few_sm f3)
    have j3 := MJoinT (jn v w).1 x (jn_sm _ _) (few_sm f3)
    have j4 := MJoinT v (jn w x).1 (few_sm f1) (jn_sm _ _)
    by_cases he : (jn v w).2 = 0 ∧ (jn w x).2 = 0 ∧ (jn (jn v w).1 x).2 = 0 ∧ (jn v (jn w x).1).2 = 0
    · obtain ⟨e1, e2, e3, e4⟩ := he
      have k1 := jn_ok e1
      have k2 := jn_ok e2
      have k3 := jn_ok e3
      have k4 := jn_ok e4
      have hrow : ∀ (a : Int) (t : List Int), rowS (a :: t) = a :: t := fun _ _ => rfl
      have q3 := k3.eq
      rw [k1.eq, hrow] at q3
      have q4 := k4.eq
      rw [k2.eq, hrow] at q4
      simp only [List.headD_cons, List.tail_cons] at q3 q4
      have hsame : (jn v (jn w x).1).1 = (jn (jn v w).1 x).1 := by
        rw [k1.eq, k2.eq] at *
        rw [q3, q4, Int.add_assoc, List.append_assoc]
      rw [e1] at j1
      rw [e2] at j2
      rw [e3] at j3
      rw [e4, hsame] at j4
      refine J_fine v w x f1 f2 f3 _ _ _ j1 j2 j3 j4 k3.may ?_
      have b1 := rowS_bd k1.ok1
      have b2 := rowS_bd k1.ok2
      have b3 := rowS_bd k2.ok2
      have hh : (jn (jn v w).1 x).1.1.headD 1 = (rowS v.1).headD 1 + (rowS w.1).headD 1 + (rowS x.1).headD 1 := by
        rw [k3.eq, k1.eq, hrow]
        rfl
      rw [hh, ← rowS_head v.1, ← rowS_head w.1, ← rowS_head x.1, wq ((rowS v.1).headD 1 + (rowS w.1).headD 1) (by omega) (by omega), wq _ (by omega) (by omega)]
    · exact J_err v w x f1 f2 f3 _ _ _ _ _ _ _ _ j1 j2 j3 j4 jn_err (by omega)
theorem lawMouldJoins (s1 : List Int) (_ : s1.length ≤ maxLen ∧ ∀ x ∈ s1, (Lit.int .i64 x).wf = true) (l1 : List Tx) (k1 : l1.length ≤ maxLen ∧ ∀ x ∈ l1, x.length ≤ maxLen) (s2 : List Int) (_ : s2.length ≤ maxLen ∧ ∀ x ∈ s2, (Lit.int .i64 x).wf = true) (l2 : List Tx) (k2 : l2.length ≤ maxLen ∧ ∀ x ∈ l2, x.length ≤ maxLen) (s3 : List Int) (_ : s3.length ≤ maxLen ∧ ∀ x ∈ s3, (Lit.int .i64 x).wf = true) (l3 : List Tx) (k3 : l3.length ≤ maxLen ∧ ∀ x ∈ l3, x.length ≤ maxLen) : C.run (.call 14 [vD s1 l1, vD s2 l2, vD s3 l3] []) = some (.done (.bool true) []) :=
  MouldJoins (s1, l1) (s2, l2) (s3, l3) k1.1 k2.1 k3.1
end Go.Proofs.YthcijldahbalcaaDoor.Q
end
section
namespace Go.Proofs.YthcijldahbalcaaDoor.Q
open Go Go.PM Go.RowKit
set_option maxRecDepth 100000
set_option maxHeartbeats 2000000
theorem may_vecI {l : List Tx} (hl : l.length ≤ 4096) (h : ∀ x ∈ l, mayT x = true) : vmayF [(l.length : Int)] l = true := by
  refine vmay_of (sizeF_of (by simp) ?_ ?_) (by simp [prodI]) h
  · intro x hx
    rw [List.mem_singleton.1 hx]
    omega
  · simp [prodI]
    omega
theorem T_few (v : VP) (hv : v.2.length ≤ 9223372036854775807) (h : few4 v.1 v.2 = false) : C.run (.call 13 [vE v] []) = some (.done (.bool true) []) := by
  have hs := shown14
  have f1 := Few4 v.1 v.2 hv
  rw [h] at f1
  refine run_of_step _ ?_
  refine call_told (fn := Tryd.f13) (by kernel_rfl) rfl ?_
  repeat' (first | refine wl_nil ?_ | refine wk_nil ?_ | refine wc_seq ?_ | refine kR ?_ | refine jR ?_ | refine wc_skip ?_ | refine wc_ret ?_ | refine wc_exit ?_ | refine wc_block ?_ | refine wc_scope ?_ | refine wc_label ?_ | refine wn_go ?_ | refine wn_ret ?_ | refine wn_exit ?_ | refine wx_go ?_ | refine wx_ret ?_ | refine wx_here ?_ | refine kX ?_ | (refine kF (fun ht => ?_) (fun ht => ?_) <;> first | (cases ht; done) | skip) | (refine kB (fun hb => ?_) (fun hb => ?_) <;> first | (cases hb; done) | (exact absurd hb (by decide)) | skip) | (refine jB (fun hb => ?_) (fun hb => ?_) <;> first | (cases hb; done) | (exact absurd hb (by decide)) | skip) | refine kH ?_ | refine kM ?_ | refine jM ?_ | refine kMi ?_ | refine jMi ?_ | refine kV ?_ | refine kE ?_ | refine jV ?_ | refine jE ?_ | refine kN ?_ | refine jN ?_ | refine kC ?_ | refine kSh ?_ | refine jC ?_ | refine kI ?_ | refine jI ?_ | refine kS ?_ | refine jS ?_ | refine kP ?_ | refine jP ?_ | refine kD ?_ | refine jD ?_ | refine kT ?_ | refine jT ?_ | refine kQ ?_ | refine jQ ?_ | refine kAo ?_ | refine jAp ?_ | refine kAr ?_ | refine kMk ?_ | refine jAr ?_ | refine kAn ?_ | refine jAm ?_ | refine kW ?_ | refine jW ?_ | refine kG ?_ | refine jG ?_ | refine kL ?_ | refine jL ?_ | refine kJ ?_ | refine jJ ?_)
  exact eq_ret rfl rfl
theorem T_may (v : VP) (hv : few4 v.1 v.2 = true) (h : vmayF v.1 v.2 = false) : C.run (.call 13 [vE v] []) = some (.done (.bool true) []) := by
  have hs := shown14
  have hsm := few_sm hv
  have h0 : v.2.length < 1000000 := hsm.2.1
  have h1 : v.1.length < 1000000 := hsm.1
  have f1 := Few4 v.1 v.2 (by omega)
  have hm := VMay v.1 v.2 (by omega) hsm.2
  rw [hv] at f1
  rw [h] at hm
  clear hv h hsm h0 h1
  refine run_of_step _ ?_
  refine call_told (fn := Tryd.f13) (by kernel_rfl) rfl ?_
  repeat' (first | refine wl_nil ?_ | refine wk_nil ?_ | refine wc_seq ?_ | refine kR ?_ | refine jR ?_ | refine wc_skip ?_ | refine wc_ret ?_ | refine wc_exit ?_ | refine wc_block ?_ | refine wc_scope ?_ | refine wc_label ?_ | refine wn_go ?_ | refine wn_ret ?_ | refine wn_exit ?_ | refine wx_go ?_ | refine wx_ret ?_ | refine wx_here ?_ | refine kX ?_ | (refine kF (fun ht => ?_) (fun ht => ?_) <;> first | (cases ht; done) | skip) | (refine kB (fun hb => ?_) (fun hb => ?_) <;> first | (cases hb; done) | (exact absurd hb (by decide)) | skip) | (refine jB (fun hb => ?_) (fun hb => ?_) <;> first | (cases hb; done) | (exact absurd hb (by decide)) | skip) | refine kH ?_ | refine kM ?_ | refine jM ?_ | refine kMi ?_ | refine jMi ?_ | refine kV ?_ | refine kE ?_ | refine jV ?_ | refine jE ?_ | refine kN ?_ | refine jN ?_ | refine kC ?_ | refine kSh ?_ | refine jC ?_ | refine kI ?_ | refine jI ?_ | refine kS ?_ | refine jS ?_ | refine kP ?_ | refine jP ?_ | refine kD ?_ | refine jD ?_ | refine kT ?_ | refine jT ?_ | refine kQ ?_ | refine jQ ?_ | refine kAo ?_ | refine jAp ?_ | refine kAr ?_ | refine kMk ?_ | refine jAr ?_ | refine kAn ?_ | refine jAm ?_ | refine kW ?_ | refine jW ?_ | refine kG ?_ | refine jG ?_ | refine kL ?_ | refine jL ?_ | refine kJ ?_ | refine jJ ?_)
  exact eq_ret rfl rfl
def lpTw : List Bool := [false, true, false, true, true, true, true, true, true, true, true, true, true, true]
def twH (s : List Int) (l a c : List Tx) (t : List Int) : List (Option Blk) := [vC (dI .i64 s) (dS l), vC (dI .i64 s) (dS l), vC (dI .i64 s) (dS a), vC (dI .i64 t) (dS c), vC (dI .i64 s) (dS l), vC (dI .i64 s) (dS l)]
theorem tw_loop (s : List Int) (l a c : List Tx) (t : List Int) (hl : s.length < 1000000) (hb : ∀ x ∈ s, x ≤ 1099511627776) : ∀ (r : List Int) (k : Nat), s.drop k = r → k ≤ s.length →
    C.run (.loop 13 lpTw 0 [some (.int .i64 (k : Nat)), some (.bool true), some (.int .i64 0), some (.int .i64 0), some (.int .i64 0), some (.int .i64 0), some (.int .i64 0), some (.int .i64 0), some (.ptr 0 0 0), some (.ptr 1 0 0), some (.ptr 2 0 0), some (.ptr 3 0 0), some (.bool false), some (.int .i64 0), some (.ptr 4 0 0), some (.ptr 5 0 0)] (twH s l a c t)) = some (.left (.exit 0) [some (.bool true), some (.int .i64 0), some (.int .i64 0), some (.int .i64 0), some (.int .i64 0), some (.int .i64 0), some (.int .i64 0), some (.ptr 0 0 0), some (.ptr 1 0 0), some (.ptr 2 0 0), some (.ptr 3 0 0), some (.bool false), some (.int .i64 0), some (.ptr 4 0 0), some (.ptr 5 0 0)] (twH s l a c t))
  | [], k, h, hk => by
    have hk2 : k = (s.map (DV.int .i64)).length := by
      have := congrArg List.length h
      simp at this
      simp
      omega
    rw [hk2]
    refine run_of_step _ ?_
    refine walk_loop (fn := Tryd.f13) (by kernel_rfl) rfl rfl [19, 3, 5, 7, 9, 11, 13, 15, 6, 10, 4, 8, 18, 17, 16, 1] (by kernel_rfl) ?_
    repeat' (first | (exact lq_exit [3, 5, 7, 9, 11, 13, 15, 6, 10, 4, 8, 18, 17, 16, 1] (by kernel_rfl) rfl rfl) | (exfalso; simp at hb; done) | (first | refine wl_nil ?_ | refine wk_nil ?_ | refine wc_seq ?_ | refine kR ?_ | refine jR ?_ | refine wc_skip ?_ | refine wc_ret ?_ | refine wc_exit ?_ | refine wc_block ?_ | refine wc_scope ?_ | refine wc_label ?_ | refine wn_go ?_ | refine wn_ret ?_ | refine wn_exit ?_ | refine wx_go ?_ | refine wx_ret ?_ | refine wx_here ?_ | refine kX ?_ | (refine kF (fun ht => ?_) (fun ht => ?_) <;> first | (cases ht; done) | skip) | (refine kB (fun hb => ?_) (fun hb => ?_) <;> first | (cases hb; done) | (exact absurd hb (by decide)) | skip) | (refine jB (fun hb => ?_) (fun hb => ?_) <;> first | (cases hb; done) | (exact absurd hb (by decide)) | skip) | refine kH ?_ | refine kM ?_ | refine jM ?_ | refine kMi ?_ | refine jMi ?_ | refine kV ?_ | refine kE ?_ | refine jV ?_ | refine jE ?_ | refine kN ?_ | refine jN ?_ | refine kC ?_ | refine kSh ?_ | refine jC ?_ | refine kI ?_ | refine jI ?_ | refine kS ?_ | refine jS ?_ | refine kP ?_ | refine jP ?_ | refine kD ?_ | refine jD ?_ | refine kT ?_ | refine jT ?_ | refine kQ ?_ | refine jQ ?_ | refine kAo ?_ | refine jAp ?_ | refine kAr ?_ | refine kMk ?_ | refine jAr ?_ | refine kAn ?_ | refine jAm ?_ | refine kW ?_ | refine jW ?_ | refine kG ?_ | refine jG ?_ | refine kL ?_ | refine jL ?_ | refine kJ ?_ | refine jJ ?_))
  | x :: r, k, h, hk => by
    obtain ⟨hx, hlt, hd⟩ := at_map (E := DV.int .i64) h
    have hkl2 : ((k : Nat) : Int) < (((s.map (DV.int .i64)).length : Nat) : Int) := by simp; omega
    have h0 : (0 : Int) ≤ (k : Nat) := Int.natCast_nonneg k
    have hxb := hb x (List.mem_of_mem_drop (by rw [h]; simp))
    have ih := tw_loop s l a c t hl hb r (k + 1) hd hlt
    have hw : IntKind.i64.wrap ((k : Nat) + 1) = ((k + 1 : Nat) : Int) := by rw [wq] <;> omega
    rw [← hw] at ih
    have hng : ¬ x > 1099511627776 := by omega
    clear hw hb
    refine run_of_step _ ?_
    refine walk_loop (fn := Tryd.f13) (by kernel_rfl) rfl rfl [19, 3, 5, 7, 9, 11, 13, 15, 6, 10, 4, 8, 18, 17, 16, 1] (by kernel_rfl) ?_
    repeat' (first | (exact lq_go rfl ih) | (exfalso; simp only [decide_eq_false_iff_not] at hb; exact hb hkl2) | (exfalso; simp only [decide_eq_true_eq] at hb; exact hng hb) | (first | refine wl_nil ?_ | refine wk_nil ?_ | refine wc_seq ?_ | refine kR ?_ | refine jR ?_ | refine wc_skip ?_ | refine wc_ret ?_ | refine wc_exit ?_ | refine wc_block ?_ | refine wc_scope ?_ | refine wc_label ?_ | refine wn_go ?_ | refine wn_ret ?_ | refine wn_exit ?_ | refine wx_go ?_ | refine wx_ret ?_ | refine wx_here ?_ | refine kX ?_ | (refine kF (fun ht => ?_) (fun ht => ?_) <;> first | (cases ht; done) | skip) | (refine kB (fun hb => ?_) (fun hb => ?_) <;> first | (cases hb; done) | (exact absurd hb (by decide)) | skip) | (refine jB (fun hb => ?_) (fun hb => ?_) <;> first | (cases hb; done) | (exact absurd hb (by decide)) | skip) | refine kH ?_ | refine kM ?_ | refine jM ?_ | refine kMi ?_ | refine jMi ?_ | refine kV ?_ | refine kE ?_ | refine jV ?_ | refine jE ?_ | refine kN ?_ | refine jN ?_ | refine kC ?_ | refine kSh ?_ | refine jC ?_ | refine kI ?_ | refine jI ?_ | refine kS ?_ | refine jS ?_ | refine kP ?_ | refine jP ?_ | refine kD ?_ | refine jD ?_ | refine kT ?_ | refine jT ?_ | refine kQ ?_ | refine jQ ?_ | refine kAo ?_ | refine jAp ?_ | refine kAr ?_ | refine kMk ?_ | refine jAr ?_ | refine kAn ?_ | refine jAm ?_ | refine kW ?_ | refine jW ?_ | refine kG ?_ | refine jG ?_ | refine kL ?_ | refine jL ?_ | refine kJ ?_ | refine jJ ?_))
theorem T_fine (s t : List Int) (l a c sv lv : List Tx) (si li : List Int) (hs : C.run (.call 40 [] []) = some (.done (.bool true) [])) (f1 : C.run (.call 17 [vD s l] []) = some (.done (.bool true) [])) (hm : C.run (.call 21 [vD s l] []) = some (.done (.bool true) []))
    (r1 : C.run (.call 43 [vD s l] []) = some (.done (.tuple [vD s a, .int .i64 0]) [])) (r2 : C.run (.call 43 [vD s a] []) = some (.done (.tuple [vD s l, .int .i64 0]) [])) (p1 : C.run (.call 44 [vD s l] []) = some (.done (okV (t, c)) [])) (p2 : C.run (.call 44 [vD t c] []) = some (.done (okV (s, l)) []))
    (sh : C.run (.call 45 [vD s l] []) = some (.done (.tuple [vD si sv, .int .i64 0]) [])) (rv : C.run (.call 46 [vD s l] []) = some (.done (.tuple [vD li lv, .int .i64 0]) [])) (rs : C.run (.call 47 [vD si sv, vD li lv] []) = some (.done (okV (s, l)) []))
    (hsm : C.run (.call 20 [vD s l, vD s l] []) = some (.done (.bool true) [])) (m1 : C.run (.call 21 [vD s a] []) = some (.done (.bool true) [])) (m2 : C.run (.call 21 [vD t c] []) = some (.done (.bool true) [])) (hl : s.length < 1000000) (hb : ∀ x ∈ s, x ≤ 1099511627776) : C.run (.call 13 [vD s l] []) = some (.done (.bool true) []) := by
  have hL := tw_loop s l a c t hl hb s 0 rfl (Nat.zero_le _)
  clear hl hb
  refine run_of_step _ ?_
  refine call_told (fn := Tryd.f13) (by kernel_rfl) rfl ?_
  repeat' (first | (exact eq_ret rfl rfl) | (exfalso; simp at hb; done) | (refine wc_loop [19, 3, 5, 7, 9, 11, 13, 15, 6, 10, 4, 8, 18, 17, 16, 1] [3, 5, 7, 9, 11, 13, 15, 6, 10, 4, 8, 18, 17, 16, 1] (by kernel_rfl) rfl hL (by kernel_rfl) ?_) | (first | refine wl_nil ?_ | refine wk_nil ?_ | refine wc_seq ?_ | refine kR ?_ | refine jR ?_ | refine wc_skip ?_ | refine wc_ret ?_ | refine wc_exit ?_ | refine wc_block ?_ | refine wc_scope ?_ | refine wc_label ?_ | refine wn_go ?_ | refine wn_ret ?_ | refine wn_exit ?_ | refine wx_go ?_ | refine wx_ret ?_ | refine wx_here ?_ | refine kX ?_ | (refine kF (fun ht => ?_) (fun ht => ?_) <;> first | (cases ht; done) | skip) | (refine kB (fun hb => ?_) (fun hb => ?_) <;> first | (cases hb; done) | (exact absurd hb (by decide)) | skip) | (refine jB (fun hb => ?_) (fun hb => ?_) <;> first | (cases hb; done) | (exact absurd hb (by decide)) | skip) | refine kH ?_ | refine kM ?_ | refine jM ?_ | refine kMi ?_ | refine jMi ?_ | refine kV ?_ | refine kE ?_ | refine jV ?_ | refine jE ?_ | refine kN ?_ | refine jN ?_ | refine kC ?_ | refine kSh ?_ | refine jC ?_ | refine kI ?_ | refine jI ?_ | refine kS ?_ | refine jS ?_ | refine kP ?_ | refine jP ?_ | refine kD ?_ | refine jD ?_ | refine kT ?_ | refine jT ?_ | refine kQ ?_ | refine jQ ?_ | refine kAo ?_ | refine jAp ?_ | refine kAr ?_ | refine kMk ?_ | refine jAr ?_ | refine kAn ?_ | refine jAm ?_ | refine kW ?_ | refine jW ?_ | refine kG ?_ | refine jG ?_ | refine kL ?_ | refine jL ?_ | refine kJ ?_ | refine jJ ?_))
theorem MouldTwice (v : VP) (hv : v.2.length ≤ 9223372036854775807) : C.run (.call 13 [vE v] []) = some (.done (.bool true) []) := by
  cases hfew : few4 v.1 v.2 with
  | false => exact T_few v hv hfew
  | true =>
    cases hmay : vmayF v.1 v.2 with
    | false => exact T_may v hfew hmay
    | true =>
      obtain ⟨s, l⟩ := v
      dsimp only at hfew hmay
      have ok := vmay_ok hmay
      have hsm := ok.small
      have hl0 : l.length < 1000000 := hsm.2.1
      have hs0 : s.length < 1000000 := hsm.1
      have f1 := Few4 s l (by omega)
      rw [hfew] at f1
      have hm := VMay s l (by omega) hsm.2
      rw [hmay] at hm
      have hsame := VSame s s l l (by omega) (by omega) (by omega) (by omega)
      rw [decide_eq_true rfl, decide_eq_true rfl] at hsame
      have hrm := rev_may ok
      have hfm := flip_may ok
      have okr := vmay_ok hrm
      have okf := vmay_ok hfm
      have r1 := MReverse s l hmay
      have r2 := MReverse s (revF s l) hrm
      rw [rev_rev ok] at r2
      have p1 := MFlip s l hmay
      have p2 := MFlip s.reverse (flipF s l) hfm
      rw [List.reverse_reverse, flip_flip ok] at p2
      have sh := MShape s l hmay
      have rv := MRavel s l hmay
      have hb : ∀ x ∈ s, -1099511627776 ≤ x ∧ x ≤ 1099511627776 := fun x hx => by have := ok.sh.nn x hx; omega
      have hlen := ok.len
      have hfw := ok.sh.few
      have hv1 : vmayF [(s.length : Int)] (s.map intT) = true := by
        have := may_vecI (l := s.map intT) (by have := ok.sh.len; simp; omega) (fun x hx => by
          obtain ⟨y, hy, rfl⟩ := List.mem_map.1 hx
          exact may_small (hb y hy).1 (hb y hy).2)
        rwa [List.length_map] at this
      have hv2 : vmayF [(l.length : Int)] l = true := may_vecI (by omega) ok.may
      have rs := MReshape [(s.length : Int)] [(l.length : Int)] (s.map intT) l hv1 hv2
      have hz : (sizeF s).2 = 0 := sizeF_of ok.sh.len ok.sh.nn ok.sh.few.2
      have e : reshR [(s.length : Int)] (s.map intT) l = okV (s, l) := by
        unfold reshR
        rw [if_neg (by simp), all_ints s [] hb, List.nil_append]
        unfold reshP
        rw [if_neg (fun h => h rfl), hz, if_neg (fun h => h rfl), ok.sh.prod, ← hlen, Int.toNat_natCast, rsR_self, if_neg]
        rintro ⟨h1, h2⟩
        rw [h2] at h1
        simp at h1
      rw [e] at rs
      have m1 := VMay s (revF s l) (by omega) okr.small.2
      rw [hrm] at m1
      have m2 := VMay s.reverse (flipF s l) (by simp; omega) okf.small.2
      rw [hfm] at m2
      exact T_fine s s.reverse l (revF s l) (flipF s l) _ _ _ _ shown14 f1 hm r1 r2 p1 p2 sh rv rs hsame m1 m2 hs0 (fun x hx => (hb x hx).2)
theorem lawMouldTwice (s1 : List Int) (_ : s1.length ≤ maxLen ∧ ∀ x ∈ s1, (Lit.int .i64 x).wf = true) (l1 : List Tx) (k1 : l1.length ≤ maxLen ∧ ∀ x ∈ l1, x.length ≤ maxLen) : C.run (.call 13 [vD s1 l1] []) = some (.done (.bool true) []) :=
  MouldTwice (s1, l1) k1.1
end Go.Proofs.YthcijldahbalcaaDoor.Q
end
section
namespace Go.Proofs.YthcijldahbalcaaDoor.mouldTwice
open Go.ChangeShapes Go.WideShapes Go.ChangeAt Go.RowKit Go.PM
open Go.ChangeMaps (open_string shut_string)
set_option linter.unusedVariables false
theorem own : ownKnob Tryd.prog.godebug = none := by kernel_rfl
theorem laidOut : laidOutB Tryd.prog = true := by kernel_rfl
set_option maxRecDepth 100000 in
theorem lifted (os : Os) (started : os.Started) (H : Type) (enc : TypeId × Value → H) :
    ReturnsInHanded {} Tryd.checked os 13 .any (fun w args => (Rows.mouldTwiceSpec.pre enc Tryd.prog Tryd.f13 [] false w args ∧ laidMetH Tryd.prog Rows.mouldTwiceRow.laid w) ∧ sizedMet enc Tryd.prog Tryd.f13 (OpenSpec.ofChange Rows.mouldTwiceSpec) false w args) (Rows.mouldTwiceSpec.post enc Tryd.prog Tryd.f13 false true false false) := by
  refine returnsInHanded_of_change_and (C := Tryd.checked) (X := (fun w _ => laidMetH Tryd.prog Rows.mouldTwiceRow.laid w)) (fun _ _ _ hh h => h.of_heap hh) own started (by kernel_rfl) Tryd.func13
    (ChangeSpec.witness_shaped (enc := enc) (C := Tryd.checked) (os := os) (X := (fun w _ => laidMetH Tryd.prog Rows.mouldTwiceRow.laid w)) false (World.laidAll Tryd.prog os Rows.mouldTwiceRow.laid) #[.agg #[.slice none 0 0, .slice none 0 0]] 8 (World.laidAll_os _ _ _)
      (World.shaped_of_ZipB (by kernel_rfl) (by kernel_rfl)) (by kernel_rfl) (by kernel_rfl) (by kernel_rfl)
      (by rw [MakeChecks.laidMetH_plain _ _ _ (by kernel_rfl)]; exact laidMet_laidAll _ (by kernel_rfl) (by kernel_rfl))) ?_
  intro W base args ds gs before hval0 hW hcnd hsz0 hL _
  have hG : GlobRel Q.C W (fun _ => False) := Q.globs (by rw [MakeChecks.laidMetH_plain _ _ _ (by kernel_rfl)] at hL; exact hL)
  have hval : ∀ (j : Nat) t v, Tryd.f13.params[j]? = some t → args[j]? = some v → Value.okWide Tryd.prog W .any base t v := hval0
  have hW' := hW
  obtain ⟨p, q, hA0, hV, rfl, hfz, hnd⟩ := hW
  have hA : DataW.TrodAll enc Tryd.prog W 0 (fun _ => true) true Tryd.f13.params.toList args.toList ds p := hA0
  rw [Tryd.params13] at hA hval
  obtain ⟨v0, vs0, d0, ds0, p0, q0, hargs, rfl, rfl, h0, r0⟩ := trodAll_cons hA
  obtain ⟨rfl, rfl, rfl⟩ := trodAll_nil r0
  obtain rfl : args = #[v0] := by cases args; simp_all
  obtain ⟨rfl, rfl⟩ := trodVars_none hV
  have hN : ∀ b, ¬ (fun _ : Nat => False) b := fun _ h => h
  have k0 := h0
  have lt0 := trod_places h0
  obtain ⟨a0, rep0, w0⟩ := arg_agg (N := fun _ => False) Tryd.underlying25 (reads_struct Tryd.underlying25 (by kernel_rfl) (readsF_cons (by kernel_rfl) (by kernel_rfl) (reads_slice Tryd.underlying22 (by kernel_rfl) (by decide) hN (reads_int Tryd.underlying3)) (readsF_last (by kernel_rfl) (by kernel_rfl) (reads_slice Tryd.underlying23 (by kernel_rfl) (by decide) hN (reads_string Tryd.underlying9))))) (hval 0 25 v0 rfl rfl) h0
  refine (law_told Q.ok (Q.lawMouldTwice (a0.1) (w0.1) (a0.2) (w0.2)) hG (argL_cons rep0 argL_nil)).mono fun e W' hpost => ?_
  obtain ⟨he, bel⟩ := hpost
  subst he
  exact ⟨_, rfl, _, _, _, [], _, [], hW', trodAll_mk1 (shut_bool Tryd.underlying4 _), (trodAll_cons_mk (Below.trod laidOut (by kernel_rfl) (of_decide_eq_true (by kernel_rfl)) k0 bel lt0) trodAll_mk0), rfl, bel.frame _, fun h => by cases h⟩
theorem over : Rows.mouldTwiceRow.holds Tryd.pinned (OpenSpec.ofChange Rows.mouldTwiceSpec) :=
  OpenClaim.holds_of_wide 13 Tryd.f13 rfl rfl rfl rfl rfl rfl rfl ⟨rfl, rfl, rfl, rfl, rfl⟩ rfl rfl rfl rfl rfl (by kernel_rfl) Tryd.func13 (by kernel_rfl)
    (of_decide_eq_true (by kernel_rfl)) (by unfold Func.isWrapper; first | (rw [if_pos (by decide +kernel)]; kernel_rfl) | (rw [if_neg (by decide +kernel)]; exact ⟨rfl, rfl⟩))
    (fun os started H enc _ => lifted os started H enc)
theorem card : Rows.MouldTwiceCardSaid :=
  Claim7.holds_tied_plain_at .later [] [.data, .data, .data, .sentinel, .sentinel] true (true, "777803f5cc2650144c63029cddcac2ae55c749573dd844dc304ba8bf68817a60") true over (fun _ h => by cases h) (by kernel_rfl) (fun _ h => by cases h) mouldTwice_row_tie rfl ⟨rfl, rfl⟩ (by kernel_rfl) rfl
    (fun f fn hf hfn => by
      obtain rfl : f = 13 := Option.some.inj ((show Tryd.prog.funcNamed Rows.mouldTwiceRow.func = some 13 by kernel_rfl).symm.trans hf) |>.symm
      obtain rfl : fn = Tryd.f13 := (Option.some.inj (Tryd.func13.symm.trans hfn)).symm
      exact ⟨by kernel_rfl, fun j t ht => by
        have hm : t ∈ Tryd.f13.params.toList := by simpa using Array.mem_of_getElem? ht
        have hall : (Tryd.f13.params.toList.all fun u => !Tryd.prog.wantsStandIn u) = true := by kernel_rfl
        exact (show Tryd.prog.wantsStandIn t = false by simpa using List.all_eq_true.1 hall t hm)⟩)
    (by kernel_rfl)
#print axioms card
end Go.Proofs.YthcijldahbalcaaDoor.mouldTwice
namespace Go.Proofs.YthcijldahbalcaaDoor
theorem mouldTwice_holds : Rows.MouldTwiceCardSaid := mouldTwice.card
end Go.Proofs.YthcijldahbalcaaDoor
end
