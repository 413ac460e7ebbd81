/- The law MouldIota: its row and its card, proved; all that it rests on stands in the texts ahead of it. No conditions. -/
import Derived.Test.YthcijldahbalcaaDoorKMouldIota4
import Derived.Shelf.Strconv.Itoa0
import Derived.Shelf.Strconv.Itoa1
import Derived.Shelf.LaysM
import Derived.Shelf.Strconv.Itoa2
import Derived.Shelf.Strconv.Itoa3
import Derived.Shelf.Strconv.Itoa4
import Derived.Shelf.Strconv.ParseIntEmpty
import Derived.Shelf.Strconv.Clone
import Derived.Shelf.Strconv.SyntaxError
import Derived.Shelf.LaysC
import Derived.Shelf.Strconv.ToError
import Derived.Shelf.Strconv.Lower
import Derived.Shelf.Strconv.ParseUint10
import Derived.Shelf.Strconv.ParseUint10Empty
import Derived.Shelf.Strconv.ParseUint10Any
import Derived.Shelf.Strconv.ParseInt10
import Derived.Shelf.Strconv.RangeError
import Derived.Shelf.Strconv.ToErrorRange
import Derived.Shelf.Strconv.ParseUintEmpty
import Derived.Shelf.Strconv.ParseUint10b64
import Derived.Shelf.Strconv.ParseUint10b32
import Derived.Shelf.Strconv.ParseUint10b16
import Derived.Shelf.Strconv.ParseUint10b8
import Derived.Shelf.Strconv.ParseUint10At
import Derived.Shelf.Strconv.ParseInt10At64
import Derived.Shelf.Strconv.ParseInt10At32
import Derived.Shelf.Strconv.ParseInt10At16
import Derived.Shelf.Strconv.ParseInt10At8
import Derived.Shelf.Strconv.ParseInt10All
import Derived.Shelf.Strconv.ParseIntPublic10
import Derived.Shelf.Strconv.ErrVarParseInt
import Derived.Shelf.GgClosure.StringsIndexFunc
import Derived.Ground.GgwProg
import Derived.Shelf.GgClosure.StringsIndexFuncTop
import Derived.Shelf.GgClosure.StringsRunes
import Derived.Shelf.Strings.Prefix
import Derived.Shelf.Strings.FuncGrows
import Derived.Shelf.Slices.Turned
import Derived.Shelf.Slices.Reverse
import Derived.Ground.Names2Prog
import Derived.Shelf.Slices.Clone
import Derived.Shelf.Slices.Cells
import Derived.Ground.SlgnProg
import Derived.Shelf.SlicesE.Clone
import Derived.Test.YthcijldahbalcaaDoorProg
import Derived.Lib.AtoiErrMem
import Derived.Lib.AppendIntMem
import Derived.Test.YthcijldahbalcaaDoorRows
import Derived.Stop.LaidErr
import Derived.Lib.LaidTab
import Derived.Test.YthcijldahbalcaaDoorTie
import Derived.Test.YthcijldahbalcaaDoorCards
import Derived.WideLaws
import Derived.ProofKit
import Derived.OpenShut
import Derived.ShutString
import Derived.ChangeOld
import Derived.SizedLaws
import Derived.ChangeSlices
import Derived.Handed
import Derived.MakeChecks
import Derived.Lay
import Derived.LaidOnce
import Derived.SevenTiedAt
import Derived.Deep.Slices
set_option linter.unusedVariables false
set_option linter.unusedSimpArgs false
section
namespace Go.Proofs
open Go.Shelf
def Tryd.laysM173_ren : Go.Shelf.Ren := ⟨fun | 173 => 76 | 246 => 106 | 283 => 123 | 284 => 124 | 285 => 125 | 286 => 126 | 129 => 143 | 317 => 142 | 318 => 144 | 319 => 145 | 320 => 146 | 337 => 157 | 338 => 158 | n => n, fun | 2 => 2 | 3 => 3 | 9 => 9 | 4 => 4 | 171 => 142 | 0 => 0 | 53 => 143 | 37 => 118 | 5 => 5 | 173 => 146 | 212 => 161 | 51 => 162 | 20 => 20 | 213 => 163 | 46 => 123 | 232 => 177 | 233 => 178 | n => n, fun | 17 => 0 | 18 => 3 | 19 => 4 | n => n⟩
theorem Tryd.laysM173 : Go.Proofs.LaysM.n173 Tryd.prog Tryd.laysM173_ren := {
  mixed := by kernel_rfl
  f129 := Tryd.func143.trans (congrArg some (by kernel_rfl))
  f173 := Tryd.func76.trans (congrArg some (by kernel_rfl))
  f246 := Tryd.func106.trans (congrArg some (by kernel_rfl))
  f283 := Tryd.func123.trans (congrArg some (by kernel_rfl))
  f284 := Tryd.func124.trans (congrArg some (by kernel_rfl))
  f285 := Tryd.func125.trans (congrArg some (by kernel_rfl))
  f286 := Tryd.func126.trans (congrArg some (by kernel_rfl))
  f317 := Tryd.func142.trans (congrArg some (by kernel_rfl))
  f318 := Tryd.func144.trans (congrArg some (by kernel_rfl))
  f319 := Tryd.func145.trans (congrArg some (by kernel_rfl))
  f320 := Tryd.func146.trans (congrArg some (by kernel_rfl))
  f337 := Tryd.func157.trans (congrArg some (by kernel_rfl))
  f338 := Tryd.func158.trans (congrArg some (by kernel_rfl))
  t0 := Tryd.underlying0
  a0 := Tryd.isAgg0
  z0 := Tryd.sizeOf0
  v0 := Tryd.zeroValue0
  t2 := Tryd.underlying2
  a2 := Tryd.isAgg2
  z2 := Tryd.sizeOf2
  v2 := Tryd.zeroValue2
  t3 := Tryd.underlying3
  a3 := Tryd.isAgg3
  z3 := Tryd.sizeOf3
  v3 := Tryd.zeroValue3
  t4 := Tryd.underlying4
  a4 := Tryd.isAgg4
  z4 := Tryd.sizeOf4
  v4 := Tryd.zeroValue4
  t5 := Tryd.underlying5
  a5 := Tryd.isAgg5
  z5 := Tryd.sizeOf5
  v5 := Tryd.zeroValue5
  t9 := Tryd.underlying9
  a9 := Tryd.isAgg9
  z9 := Tryd.sizeOf9
  v9 := Tryd.zeroValue9
  t20 := Tryd.underlying20
  a20 := Tryd.isAgg20
  z20 := Tryd.sizeOf20
  v20 := Tryd.zeroValue20
  t37 := Tryd.underlying118
  a37 := Tryd.isAgg118
  z37 := Tryd.sizeOf118
  v37 := Tryd.zeroValue118
  t46 := Tryd.underlying123
  a46 := Tryd.isAgg123
  z46 := Tryd.sizeOf123
  v46 := Tryd.zeroValue123
  t51 := Tryd.underlying162
  a51 := Tryd.isAgg162
  z51 := Tryd.sizeOf162
  v51 := Tryd.zeroValue162
  t53 := Tryd.underlying143
  a53 := Tryd.isAgg143
  z53 := Tryd.sizeOf143
  v53 := Tryd.zeroValue143
  t171 := Tryd.underlying142
  a171 := Tryd.isAgg142
  z171 := Tryd.sizeOf142
  v171 := Tryd.zeroValue142
  t173 := Tryd.underlying146
  a173 := Tryd.isAgg146
  z173 := Tryd.sizeOf146
  v173 := Tryd.zeroValue146
  t212 := Tryd.underlying161
  a212 := Tryd.isAgg161
  z212 := Tryd.sizeOf161
  v212 := Tryd.zeroValue161
  t213 := Tryd.underlying163
  a213 := Tryd.isAgg163
  z213 := Tryd.sizeOf163
  t232 := Tryd.underlying177
  a232 := Tryd.isAgg177
  z232 := Tryd.sizeOf177
  v232 := Tryd.zeroValue177
  t233 := Tryd.underlying178
  a233 := Tryd.isAgg178
  z233 := Tryd.sizeOf178
  v233 := Tryd.zeroValue178
  g17 := by kernel_rfl
  g18 := by kernel_rfl
  g19 := by kernel_rfl
  i0 := by kernel_rfl
  i2 := by kernel_rfl
  i3 := by kernel_rfl
  i4 := by kernel_rfl
  i5 := by kernel_rfl
  i9 := by kernel_rfl
  i20 := by kernel_rfl
  i37 := by kernel_rfl
  i46 := by kernel_rfl
  i51 := by kernel_rfl
  i53 := by kernel_rfl
  i171 := by kernel_rfl
  i173 := by kernel_rfl
  i212 := by kernel_rfl
  i232 := by kernel_rfl
  i233 := by kernel_rfl
  m17 := by kernel_rfl
  m18 := by kernel_rfl
  m19 := by kernel_rfl }
open Go.RowKit Go.Sort Go.Lib in
theorem Tryd.strconv_FormatInt_10 (n : Int) (h0 : -9223372036854775808 ≤ n) (h1 : n ≤ 9223372036854775807) (w : World) (htab : Lib.TabIs Tryd.prog w "internal/strconv.uint64pow10" .u64 Lib.pow10Tab) :
    Calls Tryd.prog 76 #[.int .i64 n, .int .i64 10] w fun e w' => e = .returned (.string ⟨(Lib.itoa n).toArray⟩) ∧ ∃ k os, w' = grow (w.drewN k) os := Any.strconv_FormatInt_10 Tryd.laysM173 n h0 h1 w htab
def Tryd.laysC174_ren : Go.Shelf.Ren := ⟨fun | 174 => 96 | 247 => 115 | 245 => 116 | 287 => 130 | 279 => 131 | 280 => 132 | 281 => 133 | 282 => 134 | 321 => 147 | 322 => 148 | 316 => 149 | 171 => 151 | 205 => 150 | 243 => 159 | 246 => 106 | 283 => 123 | 284 => 124 | 285 => 125 | 286 => 126 | 129 => 143 | 317 => 142 | 318 => 144 | 319 => 145 | 320 => 146 | 337 => 157 | 338 => 158 | n => n, fun | 9 => 9 | 3 => 3 | 2 => 2 | 75 => 115 | 85 => 116 | 4 => 4 | 167 => 151 | 5 => 5 | 53 => 143 | 175 => 152 | 46 => 123 | 168 => 154 | 37 => 118 | 0 => 0 | 210 => 167 | 21 => 21 | 127 => 172 | 145 => 175 | 143 => 173 | 171 => 142 | 173 => 146 | 212 => 161 | 51 => 162 | 20 => 20 | 213 => 163 | 232 => 177 | 233 => 178 | 80 => 179 | n => n, fun | 15 => 1 | 16 => 2 | 17 => 0 | 18 => 3 | 19 => 4 | n => n⟩
theorem Tryd.laysC174 : Go.Proofs.LaysC.n174 Tryd.prog Tryd.laysC174_ren := {
  mixed := by kernel_rfl
  f129 := Tryd.func143.trans (congrArg some (by kernel_rfl))
  f171 := Tryd.func151.trans (congrArg some (by kernel_rfl))
  f174 := Tryd.func96.trans (congrArg some (by kernel_rfl))
  f205 := Tryd.func150.trans (congrArg some (by kernel_rfl))
  f243 := Tryd.func159.trans (congrArg some (by kernel_rfl))
  f245 := Tryd.func116.trans (congrArg some (by kernel_rfl))
  f246 := Tryd.func106.trans (congrArg some (by kernel_rfl))
  f247 := Tryd.func115.trans (congrArg some (by kernel_rfl))
  f279 := Tryd.func131.trans (congrArg some (by kernel_rfl))
  f280 := Tryd.func132.trans (congrArg some (by kernel_rfl))
  f281 := Tryd.func133.trans (congrArg some (by kernel_rfl))
  f282 := Tryd.func134.trans (congrArg some (by kernel_rfl))
  f283 := Tryd.func123.trans (congrArg some (by kernel_rfl))
  f284 := Tryd.func124.trans (congrArg some (by kernel_rfl))
  f285 := Tryd.func125.trans (congrArg some (by kernel_rfl))
  f286 := Tryd.func126.trans (congrArg some (by kernel_rfl))
  f287 := Tryd.func130.trans (congrArg some (by kernel_rfl))
  f316 := Tryd.func149.trans (congrArg some (by kernel_rfl))
  f317 := Tryd.func142.trans (congrArg some (by kernel_rfl))
  f318 := Tryd.func144.trans (congrArg some (by kernel_rfl))
  f319 := Tryd.func145.trans (congrArg some (by kernel_rfl))
  f320 := Tryd.func146.trans (congrArg some (by kernel_rfl))
  f321 := Tryd.func147.trans (congrArg some (by kernel_rfl))
  f322 := Tryd.func148.trans (congrArg some (by kernel_rfl))
  f337 := Tryd.func157.trans (congrArg some (by kernel_rfl))
  f338 := Tryd.func158.trans (congrArg some (by kernel_rfl))
  t0 := Tryd.underlying0
  a0 := Tryd.isAgg0
  z0 := Tryd.sizeOf0
  v0 := Tryd.zeroValue0
  t2 := Tryd.underlying2
  a2 := Tryd.isAgg2
  z2 := Tryd.sizeOf2
  v2 := Tryd.zeroValue2
  t3 := Tryd.underlying3
  a3 := Tryd.isAgg3
  z3 := Tryd.sizeOf3
  v3 := Tryd.zeroValue3
  t4 := Tryd.underlying4
  a4 := Tryd.isAgg4
  z4 := Tryd.sizeOf4
  v4 := Tryd.zeroValue4
  t5 := Tryd.underlying5
  a5 := Tryd.isAgg5
  z5 := Tryd.sizeOf5
  v5 := Tryd.zeroValue5
  t9 := Tryd.underlying9
  a9 := Tryd.isAgg9
  z9 := Tryd.sizeOf9
  v9 := Tryd.zeroValue9
  t20 := Tryd.underlying20
  a20 := Tryd.isAgg20
  z20 := Tryd.sizeOf20
  v20 := Tryd.zeroValue20
  t21 := Tryd.underlying21
  a21 := Tryd.isAgg21
  z21 := Tryd.sizeOf21
  v21 := Tryd.zeroValue21
  t37 := Tryd.underlying118
  a37 := Tryd.isAgg118
  z37 := Tryd.sizeOf118
  v37 := Tryd.zeroValue118
  t46 := Tryd.underlying123
  a46 := Tryd.isAgg123
  z46 := Tryd.sizeOf123
  v46 := Tryd.zeroValue123
  t51 := Tryd.underlying162
  a51 := Tryd.isAgg162
  z51 := Tryd.sizeOf162
  v51 := Tryd.zeroValue162
  t53 := Tryd.underlying143
  a53 := Tryd.isAgg143
  z53 := Tryd.sizeOf143
  v53 := Tryd.zeroValue143
  t75 := Tryd.underlying115
  a75 := Tryd.isAgg115
  z75 := Tryd.sizeOf115
  v75 := Tryd.zeroValue115
  t85 := Tryd.underlying116
  a85 := Tryd.isAgg116
  z85 := Tryd.sizeOf116
  v85 := Tryd.zeroValue116
  t127 := Tryd.underlying172
  a127 := Tryd.isAgg172
  z127 := Tryd.sizeOf172
  v127 := Tryd.zeroValue172
  t143 := Tryd.underlying173
  a143 := Tryd.isAgg173
  z143 := Tryd.sizeOf173
  v143 := Tryd.zeroValue173
  t145 := Tryd.underlying175
  a145 := Tryd.isAgg175
  z145 := Tryd.sizeOf175
  v145 := Tryd.zeroValue175
  t167 := Tryd.underlying151
  a167 := Tryd.isAgg151
  z167 := Tryd.sizeOf151
  v167 := Tryd.zeroValue151
  t168 := Tryd.underlying154
  a168 := Tryd.isAgg154
  z168 := Tryd.sizeOf154
  v168 := Tryd.zeroValue154
  t171 := Tryd.underlying142
  a171 := Tryd.isAgg142
  z171 := Tryd.sizeOf142
  v171 := Tryd.zeroValue142
  t173 := Tryd.underlying146
  a173 := Tryd.isAgg146
  z173 := Tryd.sizeOf146
  v173 := Tryd.zeroValue146
  t175 := Tryd.underlying152
  a175 := Tryd.isAgg152
  z175 := Tryd.sizeOf152
  v175 := Tryd.zeroValue152
  t210 := Tryd.underlying167
  a210 := Tryd.isAgg167
  z210 := Tryd.sizeOf167
  v210 := Tryd.zeroValue167
  t212 := Tryd.underlying161
  a212 := Tryd.isAgg161
  z212 := Tryd.sizeOf161
  v212 := Tryd.zeroValue161
  t213 := Tryd.underlying163
  a213 := Tryd.isAgg163
  z213 := Tryd.sizeOf163
  t232 := Tryd.underlying177
  a232 := Tryd.isAgg177
  z232 := Tryd.sizeOf177
  v232 := Tryd.zeroValue177
  t233 := Tryd.underlying178
  a233 := Tryd.isAgg178
  z233 := Tryd.sizeOf178
  v233 := Tryd.zeroValue178
  g15 := by kernel_rfl
  g16 := by kernel_rfl
  g17 := by kernel_rfl
  g18 := by kernel_rfl
  g19 := by kernel_rfl
  t80 := Tryd.underlying179
  a80 := Tryd.isAgg179
  z80 := Tryd.sizeOf179
  v80 := Tryd.zeroValue179
  i0 := by kernel_rfl
  i2 := by kernel_rfl
  i3 := by kernel_rfl
  i4 := by kernel_rfl
  i5 := by kernel_rfl
  i9 := by kernel_rfl
  i20 := by kernel_rfl
  i21 := by kernel_rfl
  i37 := by kernel_rfl
  i46 := by kernel_rfl
  i51 := by kernel_rfl
  i53 := by kernel_rfl
  i75 := by kernel_rfl
  i80 := by kernel_rfl
  i85 := by kernel_rfl
  i127 := by kernel_rfl
  i143 := by kernel_rfl
  i145 := by kernel_rfl
  i167 := by kernel_rfl
  i168 := by kernel_rfl
  i171 := by kernel_rfl
  i173 := by kernel_rfl
  i175 := by kernel_rfl
  i210 := by kernel_rfl
  i212 := by kernel_rfl
  i232 := by kernel_rfl
  i233 := by kernel_rfl
  m15 := by kernel_rfl
  m16 := by kernel_rfl
  m17 := by kernel_rfl
  m18 := by kernel_rfl
  m19 := by kernel_rfl
  c0 := by kernel_rfl
  c2 := by kernel_rfl
  c3 := by kernel_rfl
  c4 := by kernel_rfl
  c5 := by kernel_rfl
  c9 := by kernel_rfl
  c20 := by kernel_rfl
  c21 := by kernel_rfl
  c37 := by kernel_rfl
  c46 := by kernel_rfl
  c51 := by kernel_rfl
  c53 := by kernel_rfl
  c75 := by kernel_rfl
  c80 := by kernel_rfl
  c85 := by kernel_rfl
  c127 := by kernel_rfl
  c143 := by kernel_rfl
  c145 := by kernel_rfl
  c167 := by kernel_rfl
  c168 := by kernel_rfl
  c171 := by kernel_rfl
  c173 := by kernel_rfl
  c175 := by kernel_rfl
  c210 := by kernel_rfl
  c212 := by kernel_rfl
  c213 := by kernel_rfl
  c232 := by kernel_rfl
  c233 := by kernel_rfl }
open Go.RowKit in
theorem Tryd.strconv_ParseInt_10_at64_ok (s : ByteArray) (hmax : s.size ≤ 9223372036854775806) (v : Int) (h : Lib.parseIntB 64 s.data.toList = .ok v) (w : World) :
    Calls Tryd.prog 96 #[.string s, .int .i64 10, .int .i64 64] w fun e w' => e = .returned (.tuple #[.int .i64 v, .nilIface]) ∧ (w' = w ∨ ∃ t, w' = Lib.bytesWorld w 5 t) := Any.strconv_ParseInt_10_at64_ok Tryd.laysC174 s hmax v h w
open Go.RowKit in
theorem Tryd.strconv_ParseInt_10_at64_range_var (s : ByteArray) (hlim : s.size ≤ 281474976710656) (h : Lib.parseIntB 64 s.data.toList = .range) (tp : TypeId) (p : Value) (w : World) (hvar : w.var? Tryd.prog "strconv.ErrRange" = some #[.iface tp p]) :
    Calls Tryd.prog 96 #[.string s, .int .i64 10, .int .i64 64] w fun e w' => ∃ N, e = .returned (.tuple #[.int .i64 (Lib.intSat 64 s.data.toList), .iface 154 (.pointer (some ⟨N, 0, none⟩))]) ∧ w.heap.size ≤ N ∧ w'.heap[N]? = some (.cells #[.string ⟨#[80, 97, 114, 115, 101, 73, 110, 116]⟩, .string s, .iface tp p] 167 (0, 0)) ∧ Below w.heap.size w w' := Any.strconv_ParseInt_10_at64_range_var Tryd.laysC174 s hlim h tp p w hvar
end Go.Proofs
end
section
namespace Go.Proofs.YthcijldahbalcaaDoor.Q
open Go Go.PM Go.RowKit
set_option maxRecDepth 100000
set_option maxHeartbeats 4000000
theorem var_of {w : World} {n : String} {g : Nat} {cs : Array Value} (hn : Tryd.prog.globalNamed n = some g) (h : ∃ e z, w.heap[g]? = some (.cells cs e z)) : w.var? Tryd.prog n = some cs := by
  obtain ⟨e, z, h⟩ := h
  unfold World.var?
  rw [hn]
  show (match w.heap[g]? with | some (.cells cs _ _) => some cs | _ => none) = _
  rw [h]
theorem tab_of {w : World} {N : Nat → Prop} (hG : GlobRel C w N) : Lib.TabIs Tryd.prog w "internal/strconv.uint64pow10" .u64 Lib.pow10Tab := by
  obtain ⟨_, o, ho, e, z, rfl⟩ := hG.fix 0 _ rfl
  exact var_of (by kernel_rfl) ⟨e, z, ho⟩
theorem rng_of {w : World} {N : Nat → Prop} (hG : GlobRel C w N) : ∃ tp p, w.var? Tryd.prog "strconv.ErrRange" = some #[.iface tp p] := by
  obtain ⟨_, o, ho, tp, p, e, z, rfl⟩ := hG.fix 2 _ rfl
  exact ⟨tp, p, var_of (by kernel_rfl) ⟨e, z, ho⟩⟩
theorem fmt_ok (args : List DV) (v : DV) (hs' : List (Option Blk)) (hx : fmtX args = some (v, hs')) : CallOK C 76 args [] v hs' := by
  unfold fmtX at hx
  split at hx
  · rename_i n b
    split at hx
    · rename_i hc
      obtain ⟨rfl, h0, h1⟩ := hc
      cases hx
      refine ext_below (fun w N vals hG hv => ?_) rfl
      obtain ⟨x0, r0, rfl, rfl, hv⟩ := hv
      obtain ⟨x1, r1, rfl, rfl, hv⟩ := hv
      obtain rfl : r1 = [] := hv
      refine (Tryd.strconv_FormatInt_10 n h0 h1 w (tab_of hG)).mono ?_
      rintro e w' ⟨rfl, k, os, rfl⟩
      exact ⟨_, rfl, Lib.below_grow _ _ (Nat.le_refl _) _ _, fun w N φ => ⟨_, rfl, by rw [itoa_eq, intF_eq n h0 h1]⟩⟩
    · cases hx
  · cases hx
theorem parse_ok (args : List DV) (v : DV) (hs' : List (Option Blk)) (hx : parseX 154 args = some (v, hs')) : CallOK C 96 args [] v hs' := by
  unfold parseX at hx
  split at hx
  · rename_i s b z
    split at hx
    · rename_i hc
      obtain ⟨rfl, rfl, hs⟩ := hc
      split at hx
      · rename_i n hp
        cases hx
        refine ext_below (fun w N vals hG hv => ?_) rfl
        obtain ⟨x0, r0, rfl, ⟨t, rfl, ht⟩, hv⟩ := hv
        obtain ⟨x1, r1, rfl, rfl, hv⟩ := hv
        obtain ⟨x2, r2, rfl, rfl, hv⟩ := hv
        obtain rfl : r2 = [] := hv
        have hsz : t.size = s.length := by rw [← ht]; rfl
        refine (Tryd.strconv_ParseInt_10_at64_ok t (by omega) n (by rw [ht]; exact hp) w).mono ?_
        rintro e w' ⟨rfl, hw⟩
        refine ⟨_, rfl, ?_, fun w N φ => ⟨_, rfl, _, _, rfl, rfl, _, _, rfl, rfl, rfl⟩⟩
        rcases hw with rfl | ⟨t, rfl⟩
        · exact Below.refl _ _
        · exact Lib.bytesWorld_below _ _ _
      · rename_i hp
        cases hx
        refine ext_below (fun w N vals hG hv => ?_) rfl
        obtain ⟨x0, r0, rfl, ⟨t, rfl, ht⟩, hv⟩ := hv
        obtain ⟨x1, r1, rfl, rfl, hv⟩ := hv
        obtain ⟨x2, r2, rfl, rfl, hv⟩ := hv
        obtain rfl : r2 = [] := hv
        have hsz : t.size = s.length := by rw [← ht]; rfl
        obtain ⟨tp, p, hr⟩ := rng_of hG
        refine (Tryd.strconv_ParseInt_10_at64_range_var t (by omega) (by rw [ht]; exact hp) tp p w hr).mono ?_
        rintro e w' ⟨N1, rfl, _, _, hb⟩
        refine ⟨_, rfl, hb, fun w N φ => ⟨_, rfl, _, _, rfl, by rw [ht]; rfl, _, _, rfl, ⟨_, rfl, rfl⟩, rfl⟩⟩
      · cases hx
    · cases hx
  · cases hx
theorem ok : CfgOK C := { body := ok0.body, mixed := ok0.mixed, seqs := ok0.seqs, code := ok0.code, ext := (by
  intro g x h args v hs' hx
  change (if g = 74 then some (cloneX 3 1 8) else if g = 77 then some (cloneX 9 1 16) else if g = 76 then some fmtX else if g = 96 then some (parseX 154) else none) = some x at h
  split at h
  · rename_i hg
    subst hg
    cases h
    exact cloneI_ok _ _ _ hx
  · split at h
    · rename_i _ hg
      subst hg
      cases h
      exact cloneS_ok _ _ _ hx
    · split at h
      · rename_i _ _ hg
        subst hg
        cases h
        exact fmt_ok _ _ _ hx
      · split at h
        · rename_i _ _ _ hg
          subst hg
          cases h
          exact parse_ok _ _ _ hx
        · cases h) }
end Go.Proofs.YthcijldahbalcaaDoor.Q
end
section
namespace Go.Proofs.YthcijldahbalcaaDoor.Q
open Go Go.PM Go.RowKit
set_option linter.unusedVariables false
theorem tabE : (Rows.laid_internal_strconv_uint64pow10 : DataW Unit) = Lib.tabData .u64 Lib.pow10Tab := by kernel_rfl
theorem starE : "*" ++ "errors.errorString" = "*errors.errorString" := by decide
theorem rowE (u : TypeId) (h : Tryd.prog.typeName? 3 u = some "*errors.errorString") : u = 173 :=
  typeName_ptr_named (nm := "errors.errorString") (by rw [starE]; kernel_rfl) (by kernel_rfl) (by decide) u (by rw [starE]; exact h)
theorem of_var {w : World} {n : String} {g : Nat} {cs : Array Value} (hn : Tryd.prog.globalNamed n = some g) (h : w.var? Tryd.prog n = some cs) : ∃ o, w.heap[g]? = some o ∧ ∃ e z, o = .cells cs e z := by
  unfold World.var? at h
  rw [hn] at h
  change (match w.heap[g]? with | some (.cells cs _ _) => some cs | _ => none) = some cs at h
  split at h
  · rename_i c e z ho
    cases h
    exact ⟨_, ho, e, z, rfl⟩
  · cases h
theorem globs {W : World} (h : laidMet Tryd.prog [("math/bits.deBruijn32tab", Rows.laid_math_bits_deBruijn32tab), ("math/bits.deBruijn64tab", Rows.laid_math_bits_deBruijn64tab), ("internal/strconv.uint64pow10", Rows.laid_internal_strconv_uint64pow10), ("strconv.ErrRange", Rows.laid_strconv_ErrRange), ("strconv.ErrSyntax", Rows.laid_strconv_ErrSyntax)] W) : GlobRel C W (fun _ => False) := by
  have h2 := h.tail.tail
  rw [tabE] at h2
  have ht := Lib.tabIs_of_head (g := 0) (t := 161) (e := 143) (n := 20) (by kernel_rfl) (by kernel_rfl) (by kernel_rfl) (by kernel_rfl) (by kernel_rfl) (by kernel_rfl) h2
  obtain ⟨a, s, hv, _⟩ := laid_sentinel (g := 2) (ti := 115) (tp := 173) (te := 175) (ts := 9) h.tail.tail.tail (by kernel_rfl) (by kernel_rfl) Tryd.underlying115 rowE (by kernel_rfl) Tryd.underlying175 (by kernel_rfl) (by kernel_rfl) (by kernel_rfl) (by kernel_rfl) (by kernel_rfl)
  refine ⟨fun g d hd => (by cases hd), fun g q hq => ?_⟩
  change (if g = 0 then some (fun o => ∃ e z, o = Obj.cells (Lib.pow10Tab.map fun n => Value.int .u64 n).toArray e z) else if g = 2 then some (fun o => ∃ tp p e z, o = Obj.cells #[.iface tp p] e z) else none) = some q at hq
  split at hq
  · rename_i hg
    subst hg
    cases hq
    obtain ⟨o, ho, hx⟩ := of_var (by kernel_rfl) ht
    exact ⟨fun h => h, o, ho, hx⟩
  · split at hq
    · rename_i _ hg
      subst hg
      cases hq
      obtain ⟨o, ho, e, z, hx⟩ := of_var (by kernel_rfl) hv
      exact ⟨fun h => h, o, ho, _, _, e, z, hx⟩
    · cases hq
end Go.Proofs.YthcijldahbalcaaDoor.Q
end
section
namespace Go.Proofs.YthcijldahbalcaaDoor.Q
open Go Go.PM Go.RowKit
set_option maxRecDepth 100000
set_option maxHeartbeats 2000000
theorem shown14 : C.run (.call 40 [] []) = some (.done (.bool true) []) := run_of_runN C 300 _ _ (by kernel_rfl)
theorem may_small {x : Int} (h0 : -1099511627776 ≤ x) (h1 : x ≤ 1099511627776) : mayT (intT x) = true := by
  refine (mayT_iff _).2 ⟨by rw [tv_intT], ?_⟩
  rw [tv_intT]
  have h2 : x.natAbs < 10 ^ 13 := by omega
  exact Nat.lt_of_lt_of_le h2 (Nat.pow_le_pow_right (by decide) (by decide))
theorem numI_int {x : Int} (h0 : -1099511627776 ≤ x) (h1 : x ≤ 1099511627776) : numI (intT x) = (x, true) := by
  unfold numI
  rw [if_pos ⟨may_small h0 h1, by rw [tv_intT]; unfold W64; simp; omega⟩, tv_intT]
theorem oneF_int {x : Int} (h0 : -1099511627776 ≤ x) (h1 : x ≤ 1099511627776) : oneF (intT x) = (x, 0) := by
  unfold oneF
  rw [numI_int h0 h1, if_pos ⟨rfl, h0, h1⟩]
theorem may_scalar {x : Tx} (h : mayT x = true) : vmayF [] [x] = true := vmay_of rfl rfl (fun y hy => by rw [List.mem_singleton.1 hy]; exact h)
theorem may_vec {l : List Tx} (hl : l.length ≤ 4096) (h : ∀ x ∈ l, mayT x = true) : vmayF [(l.length : Int)] l = true := by
  refine vmay_of ?_ (by simp [prodI]) h
  unfold sizeF
  rw [if_neg (by simp), if_neg (by simp), if_neg (by simp; omega)]
  split
  · rfl
  · simp only [szL]
    rw [if_neg (by simp; omega)]
theorem downC_one (l : List Tx) : ∀ (k : Nat), k ≤ l.length → downC 1 l k = (l.take k).reverse
  | 0, h => by simp [downC]
  | k + 1, h => by
    rw [downC, downC_one l k (by omega), Nat.mul_one]
    have hk : k < l.length := by omega
    rw [List.drop_eq_getElem_cons hk, List.take_succ_cons, List.take_zero, List.take_add_one, List.getElem?_eq_getElem hk, List.reverse_append]
    rfl
theorem rev_vec (l : List Tx) : revF [(l.length : Int)] l = l.reverse := by
  unfold revF
  by_cases h : l = []
  · subst h
    rfl
  · rw [if_neg (by simp [h])]
    have hp : 0 < l.length := List.length_pos_iff.2 h
    have hq : itemN [(l.length : Int)] l = 1 := by
      unfold itemN
      rw [if_pos (by simp; omega)]
      simp [Nat.div_self hp]
    rw [hq]
    simp [downC_one l l.length (Nat.le_refl _)]
def lpIota : List Bool := [false, true, false, true, true, true, true, true, true, true]
theorem iotaX_loop (m : Nat) (hm : m ≤ 4096) (l r : List Tx) (h1 : ∀ i, i < m → l[i]? = some (intT i)) (h2 : ∀ i, i < m → r[i]? = some (intT ((m : Int) - 1 - i))) : ∀ (j k : Nat), k + j = m →
    C.run (.loop 12 lpIota 0 [some (.ptr 0 0 0), some (.int .i64 (k : Nat)), some (.bool true), some (.ptr 1 0 0), some (.int .i64 (m : Nat))] [vC (dI .i64 [(m : Int)]) (dS r), vC (dI .i64 [(m : Int)]) (dS l)]) = some (.left (.exit 0) [some (.bool true), some (.ptr 0 0 0), some (.int .i64 (m : Nat))] [vC (dI .i64 [(m : Int)]) (dS l)])
  | 0, k, h => by
    obtain rfl : k = m := by omega
    refine run_of_step _ ?_
    refine walk_loop (fn := Tryd.f12) (by kernel_rfl) rfl rfl [7, 9, 3, 5, 4] (by kernel_rfl) ?_
    repeat' (first | (exact lq_exit [3, 5, 4] (by kernel_rfl) rfl rfl) | (exfalso; simp at hb; done) | (exfalso; simp at hb; omega) | (first | refine wl_nil ?_ | refine wk_nil ?_ | refine wc_seq ?_ | refine kR ?_ | refine jR ?_ | refine wc_skip ?_ | refine wc_ret ?_ | refine wc_exit ?_ | refine wc_block ?_ | refine wc_scope ?_ | refine wc_label ?_ | refine wn_go ?_ | refine wn_ret ?_ | refine wn_exit ?_ | refine wx_go ?_ | refine wx_ret ?_ | refine wx_here ?_ | refine kX ?_ | (refine kF (fun ht => ?_) (fun ht => ?_) <;> first | (cases ht; done) | skip) | (refine kB (fun hb => ?_) (fun hb => ?_) <;> first | (cases hb; done) | (exact absurd hb (by decide)) | skip) | (refine jB (fun hb => ?_) (fun hb => ?_) <;> first | (cases hb; done) | (exact absurd hb (by decide)) | skip) | refine kH ?_ | refine kM ?_ | refine jM ?_ | refine kMi ?_ | refine jMi ?_ | refine kV ?_ | refine kE ?_ | refine jV ?_ | refine jE ?_ | refine kN ?_ | refine jN ?_ | refine kC ?_ | refine jC ?_ | refine kI ?_ | refine jI ?_ | refine kS ?_ | refine jS ?_ | refine kP ?_ | refine jP ?_ | refine kD ?_ | refine jD ?_ | refine kT ?_ | refine jT ?_ | refine kQ ?_ | refine jQ ?_ | refine kAo ?_ | refine jAp ?_ | refine kAr ?_ | refine kMk ?_ | refine jAr ?_ | refine kAn ?_ | refine jAm ?_ | refine kW ?_ | refine jW ?_ | refine kG ?_ | refine jG ?_ | refine kL ?_ | refine jL ?_ | refine kJ ?_ | refine jJ ?_))
  | j + 1, k, h => by
    have hk : k < m := by omega
    have h0 : (0 : Int) ≤ (k : Nat) := Int.natCast_nonneg k
    have ih := iotaX_loop m hm l r h1 h2 j (k + 1) (by omega)
    have hw : IntKind.i64.wrap ((k : Nat) + 1) = ((k + 1 : Nat) : Int) := by rw [wq] <;> omega
    rw [← hw] at ih
    have hc1 := Of (k : Int) (w64_small (by omega) (by omega))
    have e : IntKind.i64.wrap (IntKind.i64.wrap ((m : Int) - 1) - (k : Int)) = (m : Int) - 1 - k := by
      rw [wq ((m : Int) - 1) (by omega) (by omega), wq _ (by omega) (by omega)]
    have hc2 := Of ((m : Int) - 1 - k) (w64_small (by omega) (by omega))
    have hx1 : (l.map DV.str)[((k : Nat) : Int).toNat]? = some (.str (intT k)) := by simp [h1 k hk]
    have hx2 : (r.map DV.str)[((k : Nat) : Int).toNat]? = some (.str (intT ((m : Int) - 1 - k))) := by simp [h2 k hk]
    rw [← e] at hc2 hx2
    have hlt : ((k : Nat) : Int) < ((m : Nat) : Int) := by omega
    refine run_of_step _ ?_
    refine walk_loop (fn := Tryd.f12) (by kernel_rfl) rfl rfl [7, 9, 3, 5, 4] (by kernel_rfl) ?_
    repeat' (first | (exact lq_go rfl ih) | (exfalso; simp at hb; done) | (exfalso; simp at hb; omega) | (first | refine wl_nil ?_ | refine wk_nil ?_ | refine wc_seq ?_ | refine kR ?_ | refine jR ?_ | refine wc_skip ?_ | refine wc_ret ?_ | refine wc_exit ?_ | refine wc_block ?_ | refine wc_scope ?_ | refine wc_label ?_ | refine wn_go ?_ | refine wn_ret ?_ | refine wn_exit ?_ | refine wx_go ?_ | refine wx_ret ?_ | refine wx_here ?_ | refine kX ?_ | (refine kF (fun ht => ?_) (fun ht => ?_) <;> first | (cases ht; done) | skip) | (refine kB (fun hb => ?_) (fun hb => ?_) <;> first | (cases hb; done) | (exact absurd hb (by decide)) | skip) | (refine jB (fun hb => ?_) (fun hb => ?_) <;> first | (cases hb; done) | (exact absurd hb (by decide)) | skip) | refine kH ?_ | refine kM ?_ | refine jM ?_ | refine kMi ?_ | refine jMi ?_ | refine kV ?_ | refine kE ?_ | refine jV ?_ | refine jE ?_ | refine kN ?_ | refine jN ?_ | refine kC ?_ | refine jC ?_ | refine kI ?_ | refine jI ?_ | refine kS ?_ | refine jS ?_ | refine kP ?_ | refine jP ?_ | refine kD ?_ | refine jD ?_ | refine kT ?_ | refine jT ?_ | refine kQ ?_ | refine jQ ?_ | refine kAo ?_ | refine jAp ?_ | refine kAr ?_ | refine kMk ?_ | refine jAr ?_ | refine kAn ?_ | refine jAm ?_ | refine kW ?_ | refine jW ?_ | refine kG ?_ | refine jG ?_ | refine kL ?_ | refine jL ?_ | refine kJ ?_ | refine jJ ?_))
theorem MouldIota (n : Int) (h0 : 0 ≤ n) (h1 : n ≤ 65535) : C.run (.call 12 [.int .u16 n] []) = some (.done (.bool true) []) := by
  have hs := shown14
  obtain ⟨m, hm⟩ := Int.eq_ofNat_of_zero_le (show 0 ≤ n.tmod 5000 by rw [Int.tmod_eq_emod_of_nonneg h0]; omega)
  have hm5 : m < 5000 := by
    rw [Int.tmod_eq_emod_of_nonneg h0] at hm
    omega
  have hrem : binD .rem (.int .i64 (IntKind.i64.wrap n)) (.int .i64 5000) = some (.int .i64 (m : Nat)) := b_rem (by decide) (by rw [wq n (by omega) (by omega)]; exact hm)
  have hc1 := Of (m : Int) (w64_small (by omega) (by omega))
  have hc2 := VScalar (intT (m : Int))
  have hmay := may_small (x := (m : Int)) (by omega) (by omega)
  have hc3 := MIota [] [intT (m : Int)] (may_scalar hmay)
  rw [show intFv [] [intT (m : Int)] = ((m : Int), 0) from oneF_int (by omega) (by omega)] at hc3
  unfold iotaR at hc3
  rw [if_neg (by simp), if_neg (by omega)] at hc3
  by_cases hbig : (m : Int) > 4096
  · rw [if_pos hbig] at hc3
    have hc4 := VSame [] [] [] [] (by simp) (by simp) (by simp) (by simp)
    refine run_of_step _ ?_
    refine call_told (fn := Tryd.f12) (by kernel_rfl) rfl ?_
    repeat' (first | (exact eq_ret rfl rfl) | (exfalso; simp at hb; done) | (exfalso; simp at hb; omega) | refine kZ .rem _ ?_ | (first | refine wl_nil ?_ | refine wk_nil ?_ | refine wc_seq ?_ | refine kR ?_ | refine jR ?_ | refine wc_skip ?_ | refine wc_ret ?_ | refine wc_exit ?_ | refine wc_block ?_ | refine wc_scope ?_ | refine wc_label ?_ | refine wn_go ?_ | refine wn_ret ?_ | refine wn_exit ?_ | refine wx_go ?_ | refine wx_ret ?_ | refine wx_here ?_ | refine kX ?_ | (refine kF (fun ht => ?_) (fun ht => ?_) <;> first | (cases ht; done) | skip) | (refine kB (fun hb => ?_) (fun hb => ?_) <;> first | (cases hb; done) | (exact absurd hb (by decide)) | skip) | (refine jB (fun hb => ?_) (fun hb => ?_) <;> first | (cases hb; done) | (exact absurd hb (by decide)) | skip) | refine kH ?_ | refine kM ?_ | refine jM ?_ | refine kMi ?_ | refine jMi ?_ | refine kV ?_ | refine kE ?_ | refine jV ?_ | refine jE ?_ | refine kN ?_ | refine jN ?_ | refine kC ?_ | refine jC ?_ | refine kI ?_ | refine jI ?_ | refine kS ?_ | refine jS ?_ | refine kP ?_ | refine jP ?_ | refine kD ?_ | refine jD ?_ | refine kT ?_ | refine jT ?_ | refine kQ ?_ | refine jQ ?_ | refine kAo ?_ | refine jAp ?_ | refine kAr ?_ | refine kMk ?_ | refine jAr ?_ | refine kAn ?_ | refine jAm ?_ | refine kW ?_ | refine jW ?_ | refine kG ?_ | refine jG ?_ | refine kL ?_ | refine jL ?_ | refine kJ ?_ | refine jJ ?_))
  · rw [if_neg hbig, Int.toNat_natCast] at hc3
    have hil : ((iotaL m).map intT).length = m := by simp [iotaL]
    have hiat : ∀ i, i < m → ((iotaL m).map intT)[i]? = some (intT i) := fun i hi => by simp [iotaL, hi]
    have hrat : ∀ i, i < m → (((iotaL m).map intT).reverse)[i]? = some (intT ((m : Int) - 1 - i)) := fun i hi => by
      rw [List.getElem?_reverse (by omega), hil, hiat _ (by omega)]
      congr 2
      omega
    have hmv := may_vec (l := (iotaL m).map intT) (by omega) (fun x hx => by
      obtain ⟨y, hy, rfl⟩ := List.mem_map.1 hx
      obtain ⟨i, hi, rfl⟩ := List.mem_map.1 hy
      have := List.mem_range.1 hi
      exact may_small (by omega) (by omega))
    have hc4 := MReverse _ _ hmv
    have hrv := rev_vec ((iotaL m).map intT)
    rw [hil] at hc4 hrv
    rw [hrv] at hc4
    have hrl : ((iotaL m).map intT).reverse.length = m := by rw [List.length_reverse, hil]
    obtain ⟨l, hl⟩ : ∃ l, (iotaL m).map intT = l := ⟨_, rfl⟩
    rw [hl] at hc3 hc4 hil hiat hrat hrl
    obtain ⟨r, hr⟩ : ∃ r, l.reverse = r := ⟨_, rfl⟩
    rw [hr] at hc4 hrat hrl
    have hL := iotaX_loop m (by omega) l r hiat hrat m 0 (by omega)
    have h00 : (0 : Int) ≤ 0 := Int.le_refl 0
    have hll : (l.map DV.str).length = m := by rw [List.length_map, hil]
    have hlr : (r.map DV.str).length = m := by rw [List.length_map, hrl]
    clear hmay hmv hrv hiat hrat hl hr
    refine run_of_step _ ?_
    refine call_told (fn := Tryd.f12) (by kernel_rfl) rfl ?_
    repeat' (first | (exfalso; simp at hb; done) | (exfalso; simp at hb; omega) | (exfalso; rw [hll] at hb; simp at hb; done) | (exfalso; rw [hlr] at hb; simp at hb; done) | refine kZ .rem _ ?_ | (first | refine wl_nil ?_ | refine wk_nil ?_ | refine wc_seq ?_ | refine kR ?_ | refine jR ?_ | refine wc_skip ?_ | refine wc_ret ?_ | refine wc_exit ?_ | refine wc_block ?_ | refine wc_scope ?_ | refine wc_label ?_ | refine wn_go ?_ | refine wn_ret ?_ | refine wn_exit ?_ | refine wx_go ?_ | refine wx_ret ?_ | refine wx_here ?_ | refine kX ?_ | (refine kF (fun ht => ?_) (fun ht => ?_) <;> first | (cases ht; done) | skip) | (refine kB (fun hb => ?_) (fun hb => ?_) <;> first | (cases hb; done) | (exact absurd hb (by decide)) | skip) | (refine jB (fun hb => ?_) (fun hb => ?_) <;> first | (cases hb; done) | (exact absurd hb (by decide)) | skip) | refine kH ?_ | refine kM ?_ | refine jM ?_ | refine kMi ?_ | refine jMi ?_ | refine kV ?_ | refine kE ?_ | refine jV ?_ | refine jE ?_ | refine kN ?_ | refine jN ?_ | refine kC ?_ | refine jC ?_ | refine kI ?_ | refine jI ?_ | refine kS ?_ | refine jS ?_ | refine kP ?_ | refine jP ?_ | refine kD ?_ | refine jD ?_ | refine kT ?_ | refine jT ?_ | refine kQ ?_ | refine jQ ?_ | refine kAo ?_ | refine jAp ?_ | refine kAr ?_ | refine kMk ?_ | refine jAr ?_ | refine kAn ?_ | refine jAm ?_ | refine kW ?_ | refine jW ?_ | refine kG ?_ | refine jG ?_ | refine kL ?_ | refine jL ?_ | refine kJ ?_ | refine jJ ?_))
    refine wc_loop [7, 9, 3, 5, 4] [3, 5, 4] (by kernel_rfl) rfl hL (by kernel_rfl) ?_
    repeat' (first | (exact eq_ret rfl rfl) | (exfalso; simp at hb; done) | (rw [hb]; exact eq_ret rfl rfl) | (first | refine wl_nil ?_ | refine wk_nil ?_ | refine wc_seq ?_ | refine kR ?_ | refine jR ?_ | refine wc_skip ?_ | refine wc_ret ?_ | refine wc_exit ?_ | refine wc_block ?_ | refine wc_scope ?_ | refine wc_label ?_ | refine wn_go ?_ | refine wn_ret ?_ | refine wn_exit ?_ | refine wx_go ?_ | refine wx_ret ?_ | refine wx_here ?_ | refine kX ?_ | (refine kF (fun ht => ?_) (fun ht => ?_) <;> first | (cases ht; done) | skip) | (refine kB (fun hb => ?_) (fun hb => ?_) <;> first | (cases hb; done) | (exact absurd hb (by decide)) | skip) | (refine jB (fun hb => ?_) (fun hb => ?_) <;> first | (cases hb; done) | (exact absurd hb (by decide)) | skip) | refine kH ?_ | refine kM ?_ | refine jM ?_ | refine kMi ?_ | refine jMi ?_ | refine kV ?_ | refine kE ?_ | refine jV ?_ | refine jE ?_ | refine kN ?_ | refine jN ?_ | refine kC ?_ | refine jC ?_ | refine kI ?_ | refine jI ?_ | refine kS ?_ | refine jS ?_ | refine kP ?_ | refine jP ?_ | refine kD ?_ | refine jD ?_ | refine kT ?_ | refine jT ?_ | refine kQ ?_ | refine jQ ?_ | refine kAo ?_ | refine jAp ?_ | refine kAr ?_ | refine kMk ?_ | refine jAr ?_ | refine kAn ?_ | refine jAm ?_ | refine kW ?_ | refine jW ?_ | refine kG ?_ | refine jG ?_ | refine kL ?_ | refine jL ?_ | refine kJ ?_ | refine jJ ?_))
theorem lawMouldIota (n : Int) (hn : (Lit.int .u16 n).wf = true) : C.run (.call 12 [.int .u16 n] []) = some (.done (.bool true) []) := by
  have hmin : IntKind.u16.min = 0 := rfl
  have hmax : IntKind.u16.max = 65535 := rfl
  simp only [Lit.wf, Bool.and_eq_true, decide_eq_true_eq] at hn
  exact MouldIota n (by omega) (by omega)
end Go.Proofs.YthcijldahbalcaaDoor.Q
end
section
namespace Go.Proofs.YthcijldahbalcaaDoor.mouldIota
open Go.ChangeShapes Go.WideShapes Go.ChangeAt Go.RowKit Go.PM
open Go.ChangeMaps (open_string shut_string)
set_option linter.unusedVariables false
theorem own : ownKnob Tryd.prog.godebug = none := by kernel_rfl
theorem laidOut : laidOutB Tryd.prog = true := by kernel_rfl
set_option maxRecDepth 100000 in
theorem lifted (os : Os) (started : os.Started) (H : Type) (enc : TypeId × Value → H) :
    ReturnsInHanded {} Tryd.checked os 12 .any (fun w args => (Rows.mouldIotaSpec.pre enc Tryd.prog Tryd.f12 [] false w args ∧ laidMetH Tryd.prog Rows.mouldIotaRow.laid w) ∧ sizedMet enc Tryd.prog Tryd.f12 (OpenSpec.ofChange Rows.mouldIotaSpec) false w args) (Rows.mouldIotaSpec.post enc Tryd.prog Tryd.f12 false true false false) := by
  refine returnsInHanded_of_change_and (C := Tryd.checked) (X := (fun w _ => laidMetH Tryd.prog Rows.mouldIotaRow.laid w)) (fun _ _ _ hh h => h.of_heap hh) own started (by kernel_rfl) Tryd.func12
    (ChangeSpec.witness_shaped (enc := enc) (C := Tryd.checked) (os := os) (X := (fun w _ => laidMetH Tryd.prog Rows.mouldIotaRow.laid w)) false (World.laidAll Tryd.prog os Rows.mouldIotaRow.laid) #[.int .u16 0] 8 (World.laidAll_os _ _ _)
      (World.shaped_of_ZipB (by kernel_rfl) (by kernel_rfl)) (by kernel_rfl) (by kernel_rfl) (by kernel_rfl)
      (by rw [MakeChecks.laidMetH_plain _ _ _ (by kernel_rfl)]; exact laidMet_laidAll _ (by kernel_rfl) (by kernel_rfl))) ?_
  intro W base args ds gs before hval0 hW hcnd hsz0 hL _
  have hG : GlobRel Q.C W (fun _ => False) := Q.globs (by rw [MakeChecks.laidMetH_plain _ _ _ (by kernel_rfl)] at hL; exact hL)
  have hval : ∀ (j : Nat) t v, Tryd.f12.params[j]? = some t → args[j]? = some v → Value.okWide Tryd.prog W .any base t v := hval0
  have hW' := hW
  obtain ⟨p, q, hA0, hV, rfl, hfz, hnd⟩ := hW
  have hA : DataW.TrodAll enc Tryd.prog W 0 (fun _ => true) true Tryd.f12.params.toList args.toList ds p := hA0
  rw [Tryd.params12] at hA hval
  obtain ⟨v0, vs0, d0, ds0, p0, q0, hargs, rfl, rfl, h0, r0⟩ := trodAll_cons hA
  obtain ⟨rfl, rfl, rfl⟩ := trodAll_nil r0
  obtain rfl : args = #[v0] := by cases args; simp_all
  obtain ⟨rfl, rfl⟩ := trodVars_none hV
  have hN : ∀ b, ¬ (fun _ : Nat => False) b := fun _ h => h
  obtain ⟨a0, rfl, rfl, rfl, w0⟩ := open_int Tryd.underlying65 (hval 0 65 v0 rfl rfl) h0
  refine (law_told Q.ok (Q.lawMouldIota a0 w0) hG (argL_cons rfl argL_nil)).mono fun e W' hpost => ?_
  obtain ⟨he, bel⟩ := hpost
  subst he
  exact ⟨_, rfl, _, _, _, [], _, [], hW', trodAll_mk1 (shut_bool Tryd.underlying4 _), (trodAll_cons_mk (shut_int Tryd.underlying65 w0) trodAll_mk0), rfl, bel.frame _, fun h => by cases h⟩
theorem over : Rows.mouldIotaRow.holds Tryd.pinned (OpenSpec.ofChange Rows.mouldIotaSpec) :=
  OpenClaim.holds_of_wide 12 Tryd.f12 rfl rfl rfl rfl rfl rfl rfl ⟨rfl, rfl, rfl, rfl, rfl⟩ rfl rfl rfl rfl rfl (by kernel_rfl) Tryd.func12 (by kernel_rfl)
    (of_decide_eq_true (by kernel_rfl)) (by unfold Func.isWrapper; first | (rw [if_pos (by decide +kernel)]; kernel_rfl) | (rw [if_neg (by decide +kernel)]; exact ⟨rfl, rfl⟩))
    (fun os started H enc _ => lifted os started H enc)
theorem card : Rows.MouldIotaCardSaid :=
  Claim7.holds_tied_plain_at .later [] [.data, .data, .data, .sentinel, .sentinel] true (true, "777803f5cc2650144c63029cddcac2ae55c749573dd844dc304ba8bf68817a60") true over (fun _ h => by cases h) (by kernel_rfl) (fun _ h => by cases h) mouldIota_row_tie rfl ⟨rfl, rfl⟩ (by kernel_rfl) rfl
    (fun f fn hf hfn => by
      obtain rfl : f = 12 := Option.some.inj ((show Tryd.prog.funcNamed Rows.mouldIotaRow.func = some 12 by kernel_rfl).symm.trans hf) |>.symm
      obtain rfl : fn = Tryd.f12 := (Option.some.inj (Tryd.func12.symm.trans hfn)).symm
      exact ⟨by kernel_rfl, fun j t ht => by
        have hm : t ∈ Tryd.f12.params.toList := by simpa using Array.mem_of_getElem? ht
        have hall : (Tryd.f12.params.toList.all fun u => !Tryd.prog.wantsStandIn u) = true := by kernel_rfl
        exact (show Tryd.prog.wantsStandIn t = false by simpa using List.all_eq_true.1 hall t hm)⟩)
    (by kernel_rfl)
#print axioms card
end Go.Proofs.YthcijldahbalcaaDoor.mouldIota
namespace Go.Proofs.YthcijldahbalcaaDoor
theorem mouldIota_holds : Rows.MouldIotaCardSaid := mouldIota.card
end Go.Proofs.YthcijldahbalcaaDoor
end
