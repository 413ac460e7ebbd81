/- The law TypedTells: its row and its card, proved; all that it rests on stands in the texts ahead of it. No conditions. -/
import Derived.Test.YthcijldahbalcaaGreatDoorKTypedTells5
import Derived.Shelf.Strconv.Itoa0
import Derived.Shelf.Strconv.Itoa1
import Derived.Shelf.LaysM
import Derived.Shelf.Strconv.Itoa2
import Derived.Shelf.Strconv.Itoa3
import Derived.Shelf.Strconv.Itoa4
import Derived.Shelf.Strconv.ParseIntEmpty
import Derived.Shelf.Strconv.Clone
import Derived.Shelf.Strconv.SyntaxError
import Derived.Shelf.LaysC
import Derived.Shelf.Strconv.ToError
import Derived.Shelf.Strconv.Lower
import Derived.Shelf.Strconv.ParseUint10
import Derived.Shelf.Strconv.ParseUint10Empty
import Derived.Shelf.Strconv.ParseUint10Any
import Derived.Shelf.Strconv.ParseInt10
import Derived.Shelf.Strconv.RangeError
import Derived.Shelf.Strconv.ToErrorRange
import Derived.Shelf.Strconv.ParseUintEmpty
import Derived.Shelf.Strconv.ParseUint10b64
import Derived.Shelf.Strconv.ParseUint10b32
import Derived.Shelf.Strconv.ParseUint10b16
import Derived.Shelf.Strconv.ParseUint10b8
import Derived.Shelf.Strconv.ParseUint10At
import Derived.Shelf.Strconv.ParseInt10At64
import Derived.Shelf.Strconv.ParseInt10At32
import Derived.Shelf.Strconv.ParseInt10At16
import Derived.Shelf.Strconv.ParseInt10At8
import Derived.Shelf.Strconv.ParseInt10All
import Derived.Shelf.Strconv.ParseIntPublic10
import Derived.Shelf.Strconv.ErrVarParseInt
import Derived.Shelf.GgClosure.StringsIndexFunc
import Derived.Ground.GgwProg
import Derived.Shelf.GgClosure.StringsIndexFuncTop
import Derived.Shelf.GgClosure.StringsRunes
import Derived.Shelf.Strings.Prefix
import Derived.Shelf.Strings.FuncGrows
import Derived.Shelf.Slices.Turned
import Derived.Test.YthcijldahbalcaaGreatDoorProg
import Derived.Lib.AtoiErrMem
import Derived.Lib.AppendIntMem
import Derived.Test.YthcijldahbalcaaGreatDoorRows
import Derived.Stop.LaidErr
import Derived.Lib.LaidTab
import Derived.Test.YthcijldahbalcaaGreatDoorTie
import Derived.Test.YthcijldahbalcaaGreatDoorCards
import Derived.WideLaws
import Derived.ProofKit
import Derived.OpenShut
import Derived.ShutString
import Derived.ChangeOld
import Derived.SizedLaws
import Derived.ChangeSlices
import Derived.Handed
import Derived.MakeChecks
import Derived.Lay
import Derived.LaidOnce
import Derived.SevenTiedAt
import Derived.Deep.Slices
set_option linter.unusedVariables false
set_option linter.unusedSimpArgs false
section
namespace Go.Proofs
open Go.Shelf
def Tryz.laysM173_ren : Go.Shelf.Ren := ⟨fun | 173 => 94 | 246 => 128 | 283 => 149 | 284 => 150 | 285 => 151 | 286 => 152 | 129 => 165 | 317 => 164 | 318 => 166 | 319 => 167 | 320 => 168 | 337 => 178 | 338 => 179 | n => n, fun | 2 => 2 | 3 => 3 | 9 => 9 | 4 => 4 | 171 => 151 | 0 => 0 | 53 => 152 | 37 => 108 | 5 => 5 | 173 => 155 | 212 => 167 | 51 => 168 | 20 => 20 | 213 => 169 | 46 => 106 | 232 => 183 | 233 => 184 | n => n, fun | 17 => 0 | 18 => 3 | 19 => 4 | n => n⟩
theorem Tryz.laysM173 : Go.Proofs.LaysM.n173 Tryz.prog Tryz.laysM173_ren := {
  mixed := by kernel_rfl
  f129 := Tryz.func165.trans (congrArg some (by kernel_rfl))
  f173 := Tryz.func94.trans (congrArg some (by kernel_rfl))
  f246 := Tryz.func128.trans (congrArg some (by kernel_rfl))
  f283 := Tryz.func149.trans (congrArg some (by kernel_rfl))
  f284 := Tryz.func150.trans (congrArg some (by kernel_rfl))
  f285 := Tryz.func151.trans (congrArg some (by kernel_rfl))
  f286 := Tryz.func152.trans (congrArg some (by kernel_rfl))
  f317 := Tryz.func164.trans (congrArg some (by kernel_rfl))
  f318 := Tryz.func166.trans (congrArg some (by kernel_rfl))
  f319 := Tryz.func167.trans (congrArg some (by kernel_rfl))
  f320 := Tryz.func168.trans (congrArg some (by kernel_rfl))
  f337 := Tryz.func178.trans (congrArg some (by kernel_rfl))
  f338 := Tryz.func179.trans (congrArg some (by kernel_rfl))
  t0 := Tryz.underlying0
  a0 := Tryz.isAgg0
  z0 := Tryz.sizeOf0
  v0 := Tryz.zeroValue0
  t2 := Tryz.underlying2
  a2 := Tryz.isAgg2
  z2 := Tryz.sizeOf2
  v2 := Tryz.zeroValue2
  t3 := Tryz.underlying3
  a3 := Tryz.isAgg3
  z3 := Tryz.sizeOf3
  v3 := Tryz.zeroValue3
  t4 := Tryz.underlying4
  a4 := Tryz.isAgg4
  z4 := Tryz.sizeOf4
  v4 := Tryz.zeroValue4
  t5 := Tryz.underlying5
  a5 := Tryz.isAgg5
  z5 := Tryz.sizeOf5
  v5 := Tryz.zeroValue5
  t9 := Tryz.underlying9
  a9 := Tryz.isAgg9
  z9 := Tryz.sizeOf9
  v9 := Tryz.zeroValue9
  t20 := Tryz.underlying20
  a20 := Tryz.isAgg20
  z20 := Tryz.sizeOf20
  v20 := Tryz.zeroValue20
  t37 := Tryz.underlying108
  a37 := Tryz.isAgg108
  z37 := Tryz.sizeOf108
  v37 := Tryz.zeroValue108
  t46 := Tryz.underlying106
  a46 := Tryz.isAgg106
  z46 := Tryz.sizeOf106
  v46 := Tryz.zeroValue106
  t51 := Tryz.underlying168
  a51 := Tryz.isAgg168
  z51 := Tryz.sizeOf168
  v51 := Tryz.zeroValue168
  t53 := Tryz.underlying152
  a53 := Tryz.isAgg152
  z53 := Tryz.sizeOf152
  v53 := Tryz.zeroValue152
  t171 := Tryz.underlying151
  a171 := Tryz.isAgg151
  z171 := Tryz.sizeOf151
  v171 := Tryz.zeroValue151
  t173 := Tryz.underlying155
  a173 := Tryz.isAgg155
  z173 := Tryz.sizeOf155
  v173 := Tryz.zeroValue155
  t212 := Tryz.underlying167
  a212 := Tryz.isAgg167
  z212 := Tryz.sizeOf167
  v212 := Tryz.zeroValue167
  t213 := Tryz.underlying169
  a213 := Tryz.isAgg169
  z213 := Tryz.sizeOf169
  t232 := Tryz.underlying183
  a232 := Tryz.isAgg183
  z232 := Tryz.sizeOf183
  v232 := Tryz.zeroValue183
  t233 := Tryz.underlying184
  a233 := Tryz.isAgg184
  z233 := Tryz.sizeOf184
  v233 := Tryz.zeroValue184
  g17 := by kernel_rfl
  g18 := by kernel_rfl
  g19 := by kernel_rfl
  i0 := by kernel_rfl
  i2 := by kernel_rfl
  i3 := by kernel_rfl
  i4 := by kernel_rfl
  i5 := by kernel_rfl
  i9 := by kernel_rfl
  i20 := by kernel_rfl
  i37 := by kernel_rfl
  i46 := by kernel_rfl
  i51 := by kernel_rfl
  i53 := by kernel_rfl
  i171 := by kernel_rfl
  i173 := by kernel_rfl
  i212 := by kernel_rfl
  i232 := by kernel_rfl
  i233 := by kernel_rfl
  m17 := by kernel_rfl
  m18 := by kernel_rfl
  m19 := by kernel_rfl }
open Go.RowKit Go.Sort Go.Lib in
theorem Tryz.strconv_FormatInt_10 (n : Int) (h0 : -9223372036854775808 ≤ n) (h1 : n ≤ 9223372036854775807) (w : World) (htab : Lib.TabIs Tryz.prog w "internal/strconv.uint64pow10" .u64 Lib.pow10Tab) :
    Calls Tryz.prog 94 #[.int .i64 n, .int .i64 10] w fun e w' => e = .returned (.string ⟨(Lib.itoa n).toArray⟩) ∧ ∃ k os, w' = grow (w.drewN k) os := Any.strconv_FormatInt_10 Tryz.laysM173 n h0 h1 w htab
def Tryz.laysC174_ren : Go.Shelf.Ren := ⟨fun | 174 => 127 | 247 => 147 | 245 => 148 | 287 => 159 | 279 => 160 | 280 => 161 | 281 => 162 | 282 => 163 | 321 => 173 | 322 => 174 | 316 => 175 | 171 => 177 | 205 => 176 | 243 => 180 | 246 => 128 | 283 => 149 | 284 => 150 | 285 => 151 | 286 => 152 | 129 => 165 | 317 => 164 | 318 => 166 | 319 => 167 | 320 => 168 | 337 => 178 | 338 => 179 | n => n, fun | 9 => 9 | 3 => 3 | 2 => 2 | 75 => 135 | 85 => 136 | 4 => 4 | 167 => 159 | 5 => 5 | 53 => 152 | 175 => 160 | 46 => 106 | 168 => 162 | 37 => 108 | 0 => 0 | 210 => 176 | 21 => 21 | 127 => 179 | 145 => 182 | 143 => 180 | 171 => 151 | 173 => 155 | 212 => 167 | 51 => 168 | 20 => 20 | 213 => 169 | 232 => 183 | 233 => 184 | 80 => 185 | n => n, fun | 15 => 1 | 16 => 2 | 17 => 0 | 18 => 3 | 19 => 4 | n => n⟩
theorem Tryz.laysC174 : Go.Proofs.LaysC.n174 Tryz.prog Tryz.laysC174_ren := {
  mixed := by kernel_rfl
  f129 := Tryz.func165.trans (congrArg some (by kernel_rfl))
  f171 := Tryz.func177.trans (congrArg some (by kernel_rfl))
  f174 := Tryz.func127.trans (congrArg some (by kernel_rfl))
  f205 := Tryz.func176.trans (congrArg some (by kernel_rfl))
  f243 := Tryz.func180.trans (congrArg some (by kernel_rfl))
  f245 := Tryz.func148.trans (congrArg some (by kernel_rfl))
  f246 := Tryz.func128.trans (congrArg some (by kernel_rfl))
  f247 := Tryz.func147.trans (congrArg some (by kernel_rfl))
  f279 := Tryz.func160.trans (congrArg some (by kernel_rfl))
  f280 := Tryz.func161.trans (congrArg some (by kernel_rfl))
  f281 := Tryz.func162.trans (congrArg some (by kernel_rfl))
  f282 := Tryz.func163.trans (congrArg some (by kernel_rfl))
  f283 := Tryz.func149.trans (congrArg some (by kernel_rfl))
  f284 := Tryz.func150.trans (congrArg some (by kernel_rfl))
  f285 := Tryz.func151.trans (congrArg some (by kernel_rfl))
  f286 := Tryz.func152.trans (congrArg some (by kernel_rfl))
  f287 := Tryz.func159.trans (congrArg some (by kernel_rfl))
  f316 := Tryz.func175.trans (congrArg some (by kernel_rfl))
  f317 := Tryz.func164.trans (congrArg some (by kernel_rfl))
  f318 := Tryz.func166.trans (congrArg some (by kernel_rfl))
  f319 := Tryz.func167.trans (congrArg some (by kernel_rfl))
  f320 := Tryz.func168.trans (congrArg some (by kernel_rfl))
  f321 := Tryz.func173.trans (congrArg some (by kernel_rfl))
  f322 := Tryz.func174.trans (congrArg some (by kernel_rfl))
  f337 := Tryz.func178.trans (congrArg some (by kernel_rfl))
  f338 := Tryz.func179.trans (congrArg some (by kernel_rfl))
  t0 := Tryz.underlying0
  a0 := Tryz.isAgg0
  z0 := Tryz.sizeOf0
  v0 := Tryz.zeroValue0
  t2 := Tryz.underlying2
  a2 := Tryz.isAgg2
  z2 := Tryz.sizeOf2
  v2 := Tryz.zeroValue2
  t3 := Tryz.underlying3
  a3 := Tryz.isAgg3
  z3 := Tryz.sizeOf3
  v3 := Tryz.zeroValue3
  t4 := Tryz.underlying4
  a4 := Tryz.isAgg4
  z4 := Tryz.sizeOf4
  v4 := Tryz.zeroValue4
  t5 := Tryz.underlying5
  a5 := Tryz.isAgg5
  z5 := Tryz.sizeOf5
  v5 := Tryz.zeroValue5
  t9 := Tryz.underlying9
  a9 := Tryz.isAgg9
  z9 := Tryz.sizeOf9
  v9 := Tryz.zeroValue9
  t20 := Tryz.underlying20
  a20 := Tryz.isAgg20
  z20 := Tryz.sizeOf20
  v20 := Tryz.zeroValue20
  t21 := Tryz.underlying21
  a21 := Tryz.isAgg21
  z21 := Tryz.sizeOf21
  v21 := Tryz.zeroValue21
  t37 := Tryz.underlying108
  a37 := Tryz.isAgg108
  z37 := Tryz.sizeOf108
  v37 := Tryz.zeroValue108
  t46 := Tryz.underlying106
  a46 := Tryz.isAgg106
  z46 := Tryz.sizeOf106
  v46 := Tryz.zeroValue106
  t51 := Tryz.underlying168
  a51 := Tryz.isAgg168
  z51 := Tryz.sizeOf168
  v51 := Tryz.zeroValue168
  t53 := Tryz.underlying152
  a53 := Tryz.isAgg152
  z53 := Tryz.sizeOf152
  v53 := Tryz.zeroValue152
  t75 := Tryz.underlying135
  a75 := Tryz.isAgg135
  z75 := Tryz.sizeOf135
  v75 := Tryz.zeroValue135
  t85 := Tryz.underlying136
  a85 := Tryz.isAgg136
  z85 := Tryz.sizeOf136
  v85 := Tryz.zeroValue136
  t127 := Tryz.underlying179
  a127 := Tryz.isAgg179
  z127 := Tryz.sizeOf179
  v127 := Tryz.zeroValue179
  t143 := Tryz.underlying180
  a143 := Tryz.isAgg180
  z143 := Tryz.sizeOf180
  v143 := Tryz.zeroValue180
  t145 := Tryz.underlying182
  a145 := Tryz.isAgg182
  z145 := Tryz.sizeOf182
  v145 := Tryz.zeroValue182
  t167 := Tryz.underlying159
  a167 := Tryz.isAgg159
  z167 := Tryz.sizeOf159
  v167 := Tryz.zeroValue159
  t168 := Tryz.underlying162
  a168 := Tryz.isAgg162
  z168 := Tryz.sizeOf162
  v168 := Tryz.zeroValue162
  t171 := Tryz.underlying151
  a171 := Tryz.isAgg151
  z171 := Tryz.sizeOf151
  v171 := Tryz.zeroValue151
  t173 := Tryz.underlying155
  a173 := Tryz.isAgg155
  z173 := Tryz.sizeOf155
  v173 := Tryz.zeroValue155
  t175 := Tryz.underlying160
  a175 := Tryz.isAgg160
  z175 := Tryz.sizeOf160
  v175 := Tryz.zeroValue160
  t210 := Tryz.underlying176
  a210 := Tryz.isAgg176
  z210 := Tryz.sizeOf176
  v210 := Tryz.zeroValue176
  t212 := Tryz.underlying167
  a212 := Tryz.isAgg167
  z212 := Tryz.sizeOf167
  v212 := Tryz.zeroValue167
  t213 := Tryz.underlying169
  a213 := Tryz.isAgg169
  z213 := Tryz.sizeOf169
  t232 := Tryz.underlying183
  a232 := Tryz.isAgg183
  z232 := Tryz.sizeOf183
  v232 := Tryz.zeroValue183
  t233 := Tryz.underlying184
  a233 := Tryz.isAgg184
  z233 := Tryz.sizeOf184
  v233 := Tryz.zeroValue184
  g15 := by kernel_rfl
  g16 := by kernel_rfl
  g17 := by kernel_rfl
  g18 := by kernel_rfl
  g19 := by kernel_rfl
  t80 := Tryz.underlying185
  a80 := Tryz.isAgg185
  z80 := Tryz.sizeOf185
  v80 := Tryz.zeroValue185
  i0 := by kernel_rfl
  i2 := by kernel_rfl
  i3 := by kernel_rfl
  i4 := by kernel_rfl
  i5 := by kernel_rfl
  i9 := by kernel_rfl
  i20 := by kernel_rfl
  i21 := by kernel_rfl
  i37 := by kernel_rfl
  i46 := by kernel_rfl
  i51 := by kernel_rfl
  i53 := by kernel_rfl
  i75 := by kernel_rfl
  i80 := by kernel_rfl
  i85 := by kernel_rfl
  i127 := by kernel_rfl
  i143 := by kernel_rfl
  i145 := by kernel_rfl
  i167 := by kernel_rfl
  i168 := by kernel_rfl
  i171 := by kernel_rfl
  i173 := by kernel_rfl
  i175 := by kernel_rfl
  i210 := by kernel_rfl
  i212 := by kernel_rfl
  i232 := by kernel_rfl
  i233 := by kernel_rfl
  m15 := by kernel_rfl
  m16 := by kernel_rfl
  m17 := by kernel_rfl
  m18 := by kernel_rfl
  m19 := by kernel_rfl
  c0 := by kernel_rfl
  c2 := by kernel_rfl
  c3 := by kernel_rfl
  c4 := by kernel_rfl
  c5 := by kernel_rfl
  c9 := by kernel_rfl
  c20 := by kernel_rfl
  c21 := by kernel_rfl
  c37 := by kernel_rfl
  c46 := by kernel_rfl
  c51 := by kernel_rfl
  c53 := by kernel_rfl
  c75 := by kernel_rfl
  c80 := by kernel_rfl
  c85 := by kernel_rfl
  c127 := by kernel_rfl
  c143 := by kernel_rfl
  c145 := by kernel_rfl
  c167 := by kernel_rfl
  c168 := by kernel_rfl
  c171 := by kernel_rfl
  c173 := by kernel_rfl
  c175 := by kernel_rfl
  c210 := by kernel_rfl
  c212 := by kernel_rfl
  c213 := by kernel_rfl
  c232 := by kernel_rfl
  c233 := by kernel_rfl }
open Go.RowKit in
theorem Tryz.strconv_ParseInt_10_at64_ok (s : ByteArray) (hmax : s.size ≤ 9223372036854775806) (v : Int) (h : Lib.parseIntB 64 s.data.toList = .ok v) (w : World) :
    Calls Tryz.prog 127 #[.string s, .int .i64 10, .int .i64 64] w fun e w' => e = .returned (.tuple #[.int .i64 v, .nilIface]) ∧ (w' = w ∨ ∃ t, w' = Lib.bytesWorld w 5 t) := Any.strconv_ParseInt_10_at64_ok Tryz.laysC174 s hmax v h w
open Go.RowKit in
theorem Tryz.strconv_ParseInt_10_at64_range_var (s : ByteArray) (hlim : s.size ≤ 281474976710656) (h : Lib.parseIntB 64 s.data.toList = .range) (tp : TypeId) (p : Value) (w : World) (hvar : w.var? Tryz.prog "strconv.ErrRange" = some #[.iface tp p]) :
    Calls Tryz.prog 127 #[.string s, .int .i64 10, .int .i64 64] w fun e w' => ∃ N, e = .returned (.tuple #[.int .i64 (Lib.intSat 64 s.data.toList), .iface 162 (.pointer (some ⟨N, 0, none⟩))]) ∧ w.heap.size ≤ N ∧ w'.heap[N]? = some (.cells #[.string ⟨#[80, 97, 114, 115, 101, 73, 110, 116]⟩, .string s, .iface tp p] 176 (0, 0)) ∧ Below w.heap.size w w' := Any.strconv_ParseInt_10_at64_range_var Tryz.laysC174 s hlim h tp p w hvar
end Go.Proofs
end
section
namespace Go.Proofs.YthcijldahbalcaaGreatDoor.Q
open Go Go.PM Go.RowKit
set_option maxRecDepth 100000
set_option maxHeartbeats 4000000
theorem var_of {w : World} {n : String} {g : Nat} {cs : Array Value} (hn : Tryz.prog.globalNamed n = some g) (h : ∃ e z, w.heap[g]? = some (.cells cs e z)) : w.var? Tryz.prog n = some cs := by
  obtain ⟨e, z, h⟩ := h
  unfold World.var?
  rw [hn]
  show (match w.heap[g]? with | some (.cells cs _ _) => some cs | _ => none) = _
  rw [h]
theorem tab_of {w : World} {N : Nat → Prop} (hG : GlobRel C w N) : Lib.TabIs Tryz.prog w "internal/strconv.uint64pow10" .u64 Lib.pow10Tab := by
  obtain ⟨_, o, ho, e, z, rfl⟩ := hG.fix 0 _ rfl
  exact var_of (by kernel_rfl) ⟨e, z, ho⟩
theorem rng_of {w : World} {N : Nat → Prop} (hG : GlobRel C w N) : ∃ tp p, w.var? Tryz.prog "strconv.ErrRange" = some #[.iface tp p] := by
  obtain ⟨_, o, ho, tp, p, e, z, rfl⟩ := hG.fix 2 _ rfl
  exact ⟨tp, p, var_of (by kernel_rfl) ⟨e, z, ho⟩⟩
theorem fmt_ok (args : List DV) (v : DV) (hs' : List (Option Blk)) (hx : fmtX args = some (v, hs')) : CallOK C 94 args [] v hs' := by
  unfold fmtX at hx
  split at hx
  · rename_i n b
    split at hx
    · rename_i hc
      obtain ⟨rfl, h0, h1⟩ := hc
      cases hx
      refine ext_below (fun w N vals hG hv => ?_) rfl
      obtain ⟨x0, r0, rfl, rfl, hv⟩ := hv
      obtain ⟨x1, r1, rfl, rfl, hv⟩ := hv
      obtain rfl : r1 = [] := hv
      refine (Tryz.strconv_FormatInt_10 n h0 h1 w (tab_of hG)).mono ?_
      rintro e w' ⟨rfl, k, os, rfl⟩
      exact ⟨_, rfl, Lib.below_grow _ _ (Nat.le_refl _) _ _, fun w N φ => ⟨_, rfl, by rw [itoa_eq, intF_eq n h0 h1]⟩⟩
    · cases hx
  · cases hx
theorem parse_ok (args : List DV) (v : DV) (hs' : List (Option Blk)) (hx : parseX 162 args = some (v, hs')) : CallOK C 127 args [] v hs' := by
  unfold parseX at hx
  split at hx
  · rename_i s b z
    split at hx
    · rename_i hc
      obtain ⟨rfl, rfl, hs⟩ := hc
      split at hx
      · rename_i n hp
        cases hx
        refine ext_below (fun w N vals hG hv => ?_) rfl
        obtain ⟨x0, r0, rfl, ⟨t, rfl, ht⟩, hv⟩ := hv
        obtain ⟨x1, r1, rfl, rfl, hv⟩ := hv
        obtain ⟨x2, r2, rfl, rfl, hv⟩ := hv
        obtain rfl : r2 = [] := hv
        have hsz : t.size = s.length := by rw [← ht]; rfl
        refine (Tryz.strconv_ParseInt_10_at64_ok t (by omega) n (by rw [ht]; exact hp) w).mono ?_
        rintro e w' ⟨rfl, hw⟩
        refine ⟨_, rfl, ?_, fun w N φ => ⟨_, rfl, _, _, rfl, rfl, _, _, rfl, rfl, rfl⟩⟩
        rcases hw with rfl | ⟨t, rfl⟩
        · exact Below.refl _ _
        · exact Lib.bytesWorld_below _ _ _
      · rename_i hp
        cases hx
        refine ext_below (fun w N vals hG hv => ?_) rfl
        obtain ⟨x0, r0, rfl, ⟨t, rfl, ht⟩, hv⟩ := hv
        obtain ⟨x1, r1, rfl, rfl, hv⟩ := hv
        obtain ⟨x2, r2, rfl, rfl, hv⟩ := hv
        obtain rfl : r2 = [] := hv
        have hsz : t.size = s.length := by rw [← ht]; rfl
        obtain ⟨tp, p, hr⟩ := rng_of hG
        refine (Tryz.strconv_ParseInt_10_at64_range_var t (by omega) (by rw [ht]; exact hp) tp p w hr).mono ?_
        rintro e w' ⟨N1, rfl, _, _, hb⟩
        refine ⟨_, rfl, hb, fun w N φ => ⟨_, rfl, _, _, rfl, by rw [ht]; rfl, _, _, rfl, ⟨_, rfl, rfl⟩, rfl⟩⟩
      · cases hx
    · cases hx
  · cases hx
theorem ok : CfgOK C := { body := ok0.body, mixed := ok0.mixed, seqs := ok0.seqs, code := ok0.code, ext := (by
  intro g x h args v hs' hx
  change (if g = 47 then some (cloneX 3 1 8) else if g = 72 then some (cloneX 9 1 16) else if g = 94 then some fmtX else if g = 127 then some (parseX 162) else none) = some x at h
  split at h
  · rename_i hg
    subst hg
    cases h
    exact cloneI_ok _ _ _ hx
  · split at h
    · rename_i _ hg
      subst hg
      cases h
      exact cloneS_ok _ _ _ hx
    · split at h
      · rename_i _ _ hg
        subst hg
        cases h
        exact fmt_ok _ _ _ hx
      · split at h
        · rename_i _ _ _ hg
          subst hg
          cases h
          exact parse_ok _ _ _ hx
        · cases h) }
end Go.Proofs.YthcijldahbalcaaGreatDoor.Q
end
section
namespace Go.Proofs.YthcijldahbalcaaGreatDoor.Q
open Go Go.PM Go.RowKit
set_option linter.unusedVariables false
theorem tabE : (Rows.laid_internal_strconv_uint64pow10 : DataW Unit) = Lib.tabData .u64 Lib.pow10Tab := by kernel_rfl
theorem starE : "*" ++ "errors.errorString" = "*errors.errorString" := by decide
theorem rowE (u : TypeId) (h : Tryz.prog.typeName? 3 u = some "*errors.errorString") : u = 180 :=
  typeName_ptr_named (nm := "errors.errorString") (by rw [starE]; kernel_rfl) (by kernel_rfl) (by decide) u (by rw [starE]; exact h)
theorem of_var {w : World} {n : String} {g : Nat} {cs : Array Value} (hn : Tryz.prog.globalNamed n = some g) (h : w.var? Tryz.prog n = some cs) : ∃ o, w.heap[g]? = some o ∧ ∃ e z, o = .cells cs e z := by
  unfold World.var? at h
  rw [hn] at h
  change (match w.heap[g]? with | some (.cells cs _ _) => some cs | _ => none) = some cs at h
  split at h
  · rename_i c e z ho
    cases h
    exact ⟨_, ho, e, z, rfl⟩
  · cases h
theorem globs {W : World} (h : laidMet Tryz.prog [("math/bits.deBruijn32tab", Rows.laid_math_bits_deBruijn32tab), ("math/bits.deBruijn64tab", Rows.laid_math_bits_deBruijn64tab), ("internal/strconv.uint64pow10", Rows.laid_internal_strconv_uint64pow10), ("strconv.ErrRange", Rows.laid_strconv_ErrRange), ("strconv.ErrSyntax", Rows.laid_strconv_ErrSyntax)] W) : GlobRel C W (fun _ => False) := by
  have h2 := h.tail.tail
  rw [tabE] at h2
  have ht := Lib.tabIs_of_head (g := 0) (t := 167) (e := 152) (n := 20) (by kernel_rfl) (by kernel_rfl) (by kernel_rfl) (by kernel_rfl) (by kernel_rfl) (by kernel_rfl) h2
  obtain ⟨a, s, hv, _⟩ := laid_sentinel (g := 2) (ti := 135) (tp := 180) (te := 182) (ts := 9) h.tail.tail.tail (by kernel_rfl) (by kernel_rfl) Tryz.underlying135 rowE (by kernel_rfl) Tryz.underlying182 (by kernel_rfl) (by kernel_rfl) (by kernel_rfl) (by kernel_rfl) (by kernel_rfl)
  refine ⟨fun g d hd => (by cases hd), fun g q hq => ?_⟩
  change (if g = 0 then some (fun o => ∃ e z, o = Obj.cells (Lib.pow10Tab.map fun n => Value.int .u64 n).toArray e z) else if g = 2 then some (fun o => ∃ tp p e z, o = Obj.cells #[.iface tp p] e z) else none) = some q at hq
  split at hq
  · rename_i hg
    subst hg
    cases hq
    obtain ⟨o, ho, hx⟩ := of_var (by kernel_rfl) ht
    exact ⟨fun h => h, o, ho, hx⟩
  · split at hq
    · rename_i _ hg
      subst hg
      cases hq
      obtain ⟨o, ho, e, z, hx⟩ := of_var (by kernel_rfl) hv
      exact ⟨fun h => h, o, ho, _, _, e, z, hx⟩
    · cases hq
end Go.Proofs.YthcijldahbalcaaGreatDoor.Q
end
section
namespace Go.Proofs.YthcijldahbalcaaGreatDoor.Q
open Go Go.PM Go.RowKit
set_option maxRecDepth 100000
set_option maxHeartbeats 2000000
def few5 (s : List Int) (d : List UInt8) : Bool := decide (((d.length : Nat) : Int) ≤ 2400) && decide (((s.length : Nat) : Int) ≤ 20)
theorem S_few (w : Int) (s : List Int) (d : List UInt8) (i v : Int) (h : few5 s d = false) : C.run (.call 3 [tyD w s d, .int .i64 i, .int .i64 v] []) = some (.done (.bool true) []) := by
  have hc1 := shown05
  have hc2 := few05 w s d
  rw [show (decide (((d.length : Nat) : Int) ≤ 2400) && decide (((s.length : Nat) : Int) ≤ 20)) = false from h] at hc2
  refine run_of_step _ ?_
  refine call_told (fn := Tryz.f3) (by kernel_rfl) rfl ?_
  repeat' (first | refine wl_nil ?_ | refine wk_nil ?_ | refine wc_seq ?_ | refine kR ?_ | refine jR ?_ | refine wc_skip ?_ | refine wc_ret ?_ | refine wc_exit ?_ | refine wc_block ?_ | refine wn_go ?_ | refine wn_ret ?_ | refine wn_exit ?_ | refine wx_go ?_ | refine wx_ret ?_ | refine wx_here ?_ | refine kX ?_ | (refine kF (fun ht => ?_) (fun ht => ?_) <;> first | (cases ht; done) | skip) | (refine kB (fun hb => ?_) (fun hb => ?_) <;> first | (cases hb; done) | (exact absurd hb (by decide)) | skip) | (refine jB (fun hb => ?_) (fun hb => ?_) <;> first | (cases hb; done) | (exact absurd hb (by decide)) | skip) | refine kH ?_ | refine kM ?_ | refine jM ?_ | refine kV ?_ | refine kE ?_ | refine jV ?_ | refine jE ?_ | refine kN ?_ | refine jN ?_ | refine kC ?_ | refine jC ?_ | refine kI ?_ | refine jI ?_ | refine kS ?_ | refine jS ?_ | refine kP ?_ | refine jP ?_ | refine kD ?_ | refine jD ?_ | refine kT ?_ | refine jT ?_ | refine kQ ?_ | refine jQ ?_ | refine kAo ?_ | refine jAp ?_ | refine kAn ?_ | refine jAm ?_ | refine kW ?_ | refine jW ?_ | refine kG ?_ | refine jG ?_ | refine kL ?_ | refine jL ?_ | refine kJ ?_ | refine jJ ?_)
  exact eq_ret rfl rfl
theorem S_same (w : Int) (s : List Int) (d : List UInt8) (i v : Int) (h : few5 s d = true) (hs : s.length < 1000000) (hd : d.length < 1000000) (x : Int) (b : Bool) (hA : C.run (.call 9 [tyD w s d, .int .i64 i] []) = some (.done (.tuple [.int .i64 x, .bool b]) []))
    (hB : C.run (.call 10 [tyD w s d, .int .i64 i] []) = some (.done (.tuple [.int .i64 x, .bool b]) []))
    (a : List Int) (l : List Tx) (e : Bool) (ha : a.length < 4611686018427387904) (hl : l.length < 1000000)
    (hV : C.run (.call 11 [tyD w s d] []) = some (.done (.tuple [vD a l, .bool e]) [])) (hU : C.run (.call 12 [tyD w s d] []) = some (.done (.tuple [vD a l, .bool e]) []))
    (w' : Int) (s' : List Int) (d' : Tx) (g : Bool) (hs' : s'.length < 4611686018427387904)
    (hT : C.run (.call 13 [tyD w s d, .int .i64 v] []) = some (.done (.tuple [tyD w' s' d', .bool g]) [])) (hR : C.run (.call 14 [tyD w s d, .int .i64 v] []) = some (.done (.tuple [tyD w' s' d', .bool g]) [])) :
    C.run (.call 3 [tyD w s d, .int .i64 i, .int .i64 v] []) = some (.done (.bool true) []) := by
  have hc1 := shown05
  have hc2 := few05 w s d
  have hc3 := made05 w s d
  rw [show (decide (((d.length : Nat) : Int) ≤ 2400) && decide (((s.length : Nat) : Int) ≤ 20)) = true from h] at hc2
  have hc4 := tMay w s d (by omega)
  have hc5 := RTMay w s d hs hd
  have hc6 := tMany w s d (by omega)
  have hc7 := RTMany w s d hs hd
  have hc8 := RSame4 a l ha hl
  have hc9 := same05 w' w' s' s' d' d' hs'
  rw [show ((w' == w') && decide (s' = s') && d' == d') = true by simp] at hc9
  have hbb : ∀ c : Bool, (c == c) = true := by decide
  refine run_of_step _ ?_
  refine call_told (fn := Tryz.f3) (by kernel_rfl) rfl ?_
  repeat' (first | (exact eq_ret rfl rfl) | (exfalso; simp at hb; done) | (rw [hb]; exact eq_ret rfl rfl) | (first | refine wl_nil ?_ | refine wk_nil ?_ | refine wc_seq ?_ | refine kR ?_ | refine jR ?_ | refine wc_skip ?_ | refine wc_ret ?_ | refine wc_exit ?_ | refine wc_block ?_ | refine wn_go ?_ | refine wn_ret ?_ | refine wn_exit ?_ | refine wx_go ?_ | refine wx_ret ?_ | refine wx_here ?_ | refine kX ?_ | (refine kF (fun ht => ?_) (fun ht => ?_) <;> first | (cases ht; done) | skip) | (refine kB (fun hb => ?_) (fun hb => ?_) <;> first | (cases hb; done) | (exact absurd hb (by decide)) | skip) | (refine jB (fun hb => ?_) (fun hb => ?_) <;> first | (cases hb; done) | (exact absurd hb (by decide)) | skip) | refine kH ?_ | refine kM ?_ | refine jM ?_ | refine kV ?_ | refine kE ?_ | refine jV ?_ | refine jE ?_ | refine kN ?_ | refine jN ?_ | refine kC ?_ | refine jC ?_ | refine kI ?_ | refine jI ?_ | refine kS ?_ | refine jS ?_ | refine kP ?_ | refine jP ?_ | refine kD ?_ | refine jD ?_ | refine kT ?_ | refine jT ?_ | refine kQ ?_ | refine jQ ?_ | refine kAo ?_ | refine jAp ?_ | refine kAn ?_ | refine jAm ?_ | refine kW ?_ | refine jW ?_ | refine kG ?_ | refine jG ?_ | refine kL ?_ | refine jL ?_ | refine kJ ?_ | refine jJ ?_))
theorem TypedTells (w : Int) (s : List Int) (d : List UInt8) (i v : Int) : C.run (.call 3 [tyD w s d, .int .i64 i, .int .i64 v] []) = some (.done (.bool true) []) := by
  cases hfew : few5 s d with
  | false => exact S_few w s d i v hfew
  | true =>
    have hb : s.length ≤ 20 ∧ d.length ≤ 2400 := by
      unfold few5 at hfew
      simp at hfew
      omega
    have hs : s.length < 1000000 := by omega
    have hd : d.length < 1000000 := by omega
    cases hmay : mayF w s d with
    | false =>
      have hm0 : manyF w s d = 0 := by unfold manyF; rw [hmay]; rfl
      exact S_same w s d i v hfew hs hd 0 false (At_out w s d i (by omega) (by rw [hm0]; omega)) (RTAt_out w s d i hs hd (by rw [hm0]; omega)) [] [] false (by simp) (by simp) (TVal_no w s d hs hmay) (RVal_no w s d hs hd hmay) 0 [] [] false (by simp) (To_no w s d v [] (by omega) (all0 w s d (by omega) hmay) (.inl hmay)) (RTo_no w s d v [] [] false (RVal_no w s d hs hd hmay) (.inl rfl))
    | true =>
      obtain ⟨n, q, hn, rfl, hsz, hq, hdl⟩ := may_parts hmay
      have hlen := chunk_len n q (bI d)
      obtain ⟨x, b, hA, hB⟩ : ∃ x b, C.run (.call 9 [tyD (8 * (n : Int)) s d, .int .i64 i] []) = some (.done (.tuple [.int .i64 x, .bool b]) []) ∧ C.run (.call 10 [tyD (8 * (n : Int)) s d, .int .i64 i] []) = some (.done (.tuple [.int .i64 x, .bool b]) []) := by
        by_cases hi : 0 ≤ i ∧ i < manyF (8 * (n : Int)) s d
        · obtain ⟨k, rfl⟩ := Int.eq_ofNat_of_zero_le hi.1
          have hk : k < q := by
            have := hi.2
            rw [many_of hn hsz hdl] at this
            omega
          exact ⟨_, true, At_in hn s d (by omega) hsz hdl hk, RTAt_in hn s d hs hsz hdl hk⟩
        · exact ⟨0, false, At_out _ s d i (by omega) hi, RTAt_out _ s d i hs hd hi⟩
      have hV := TVal hn s d hs hsz hdl
      have hU := RVal hn s d hs hsz hdl
      obtain ⟨b1, b2, b3⟩ := sizeF_bd s _ hsz
      have hll : ((chunkL n q (bI d)).map intT).length < 1000000 := by rw [List.length_map]; omega
      obtain ⟨w', s', d', g, hs', hT, hR⟩ : ∃ w' s' d' g, s'.length < 4611686018427387904 ∧ C.run (.call 13 [tyD (8 * (n : Int)) s d, .int .i64 v] []) = some (.done (.tuple [tyD w' s' d', .bool g]) []) ∧ C.run (.call 14 [tyD (8 * (n : Int)) s d, .int .i64 v] []) = some (.done (.tuple [tyD w' s' d', .bool g]) []) := by
        cases hk : knownF v with
        | false => exact ⟨0, [], [], false, by simp, To_no _ s d v _ (by omega) (all hn s d (by omega) hsz hdl) (.inr hk), RTo_no _ s d v _ _ true hU (.inr hk)⟩
        | true =>
          obtain ⟨m, hm, rfl⟩ := (knownF_iff v).1 hk
          have h1 := To_some hn hm s d (by omega) hsz hdl
          have h2 := RTo_some hn hm s d hs hsz hdl
          cases hf : (chunkL n q (bI d)).any (fun x => !fitB m x) with
          | true =>
            rw [if_pos hf] at h1 h2
            exact ⟨0, [], [], false, by simp, h1, h2⟩
          | false =>
            rw [if_neg (by rw [hf]; exact Bool.false_ne_true)] at h1 h2
            exact ⟨_, s, _, true, by omega, h1, h2⟩
      exact S_same _ s d i v hfew hs hd x b hA hB s _ true (by omega) hll hV hU w' s' d' g hs' hT hR
theorem lawTypedTells (w : Int) (_ : (Lit.int .i64 w).wf = true) (s : List Int) (_ : s.length ≤ maxLen ∧ ∀ x ∈ s, (Lit.int .i64 x).wf = true) (d : List UInt8) (_ : d.length ≤ maxLen) (i : Int) (_ : (Lit.int .i64 i).wf = true) (v : Int) (_ : (Lit.int .i64 v).wf = true) : C.run (.call 3 [tyD w s d, .int .i64 i, .int .i64 v] []) = some (.done (.bool true) []) :=
  TypedTells w s d i v
end Go.Proofs.YthcijldahbalcaaGreatDoor.Q
end
section
namespace Go.Proofs.YthcijldahbalcaaGreatDoor.typedTells
open Go.ChangeShapes Go.WideShapes Go.ChangeAt Go.RowKit Go.PM
open Go.ChangeMaps (open_string shut_string)
set_option linter.unusedVariables false
theorem own : ownKnob Tryz.prog.godebug = none := by kernel_rfl
theorem laidOut : laidOutB Tryz.prog = true := by kernel_rfl
set_option maxRecDepth 100000 in
theorem lifted (os : Os) (started : os.Started) (H : Type) (enc : TypeId × Value → H) :
    ReturnsInHanded {} Tryz.checked os 3 .any (fun w args => (Rows.typedTellsSpec.pre enc Tryz.prog Tryz.f3 [] false w args ∧ laidMetH Tryz.prog Rows.typedTellsRow.laid w) ∧ sizedMet enc Tryz.prog Tryz.f3 (OpenSpec.ofChange Rows.typedTellsSpec) false w args) (Rows.typedTellsSpec.post enc Tryz.prog Tryz.f3 false true false false) := by
  refine returnsInHanded_of_change_and (C := Tryz.checked) (X := (fun w _ => laidMetH Tryz.prog Rows.typedTellsRow.laid w)) (fun _ _ _ hh h => h.of_heap hh) own started (by kernel_rfl) Tryz.func3
    (ChangeSpec.witness_shaped (enc := enc) (C := Tryz.checked) (os := os) (X := (fun w _ => laidMetH Tryz.prog Rows.typedTellsRow.laid w)) false (World.laidAll Tryz.prog os Rows.typedTellsRow.laid) #[.agg #[.int .i64 0, .slice none 0 0, .string ByteArray.empty], .int .i64 0, .int .i64 0] 8 (World.laidAll_os _ _ _)
      (World.shaped_of_ZipB (by kernel_rfl) (by kernel_rfl)) (by kernel_rfl) (by kernel_rfl) (by kernel_rfl)
      (by rw [MakeChecks.laidMetH_plain _ _ _ (by kernel_rfl)]; exact laidMet_laidAll _ (by kernel_rfl) (by kernel_rfl))) ?_
  intro W base args ds gs before hval0 hW hcnd hsz0 hL _
  have hG : GlobRel Q.C W (fun _ => False) := Q.globs (by rw [MakeChecks.laidMetH_plain _ _ _ (by kernel_rfl)] at hL; exact hL)
  have hval : ∀ (j : Nat) t v, Tryz.f3.params[j]? = some t → args[j]? = some v → Value.okWide Tryz.prog W .any base t v := hval0
  have hW' := hW
  obtain ⟨p, q, hA0, hV, rfl, hfz, hnd⟩ := hW
  have hA : DataW.TrodAll enc Tryz.prog W 0 (fun _ => true) true Tryz.f3.params.toList args.toList ds p := hA0
  rw [Tryz.params3] at hA hval
  obtain ⟨v0, vs0, d0, ds0, p0, q0, hargs, rfl, rfl, h0, r0⟩ := trodAll_cons hA
  obtain ⟨v1, vs1, d1, ds1, p1, q1, rfl, rfl, rfl, h1, r1⟩ := trodAll_cons r0
  obtain ⟨v2, vs2, d2, ds2, p2, q2, rfl, rfl, rfl, h2, r2⟩ := trodAll_cons r1
  obtain ⟨rfl, rfl, rfl⟩ := trodAll_nil r2
  obtain rfl : args = #[v0, v1, v2] := by cases args; simp_all
  obtain ⟨rfl, rfl⟩ := trodVars_none hV
  have hN : ∀ b, ¬ (fun _ : Nat => False) b := fun _ h => h
  have k0 := h0
  have lt0 := trod_places h0
  obtain ⟨a0, rep0, w0⟩ := arg_agg (N := fun _ => False) Tryz.underlying24 (reads_struct Tryz.underlying24 (by kernel_rfl) (readsF_cons (by kernel_rfl) (by kernel_rfl) (reads_int Tryz.underlying3) (readsF_cons (by kernel_rfl) (by kernel_rfl) (reads_slice Tryz.underlying22 (by kernel_rfl) (by decide) hN (reads_int Tryz.underlying3)) (readsF_last (by kernel_rfl) (by kernel_rfl) (reads_string Tryz.underlying9))))) (hval 0 24 v0 rfl rfl) h0
  obtain ⟨a1, rfl, rfl, rfl, w1⟩ := open_int Tryz.underlying3 (hval 1 3 v1 rfl rfl) h1
  obtain ⟨a2, rfl, rfl, rfl, w2⟩ := open_int Tryz.underlying3 (hval 2 3 v2 rfl rfl) h2
  refine (law_told Q.ok (Q.lawTypedTells (a0.1) (w0.1) (a0.2.1) (w0.2.1) (a0.2.2) (w0.2.2) a1 w1 a2 w2) hG (argL_cons rep0 (argL_cons rfl (argL_cons rfl argL_nil)))).mono fun e W' hpost => ?_
  obtain ⟨he, bel⟩ := hpost
  subst he
  exact ⟨_, rfl, _, _, _, [], _, [], hW', trodAll_mk1 (shut_bool Tryz.underlying4 _), (trodAll_cons_mk (Below.trod laidOut (by kernel_rfl) (of_decide_eq_true (by kernel_rfl)) k0 bel lt0) (trodAll_cons_mk (shut_int Tryz.underlying3 w1) (trodAll_cons_mk (shut_int Tryz.underlying3 w2) trodAll_mk0))), rfl, bel.frame _, fun h => by cases h⟩
theorem over : Rows.typedTellsRow.holds Tryz.pinned (OpenSpec.ofChange Rows.typedTellsSpec) :=
  OpenClaim.holds_of_wide 3 Tryz.f3 rfl rfl rfl rfl rfl rfl rfl ⟨rfl, rfl, rfl, rfl, rfl⟩ rfl rfl rfl rfl rfl (by kernel_rfl) Tryz.func3 (by kernel_rfl)
    (of_decide_eq_true (by kernel_rfl)) (by unfold Func.isWrapper; first | (rw [if_pos (by decide +kernel)]; kernel_rfl) | (rw [if_neg (by decide +kernel)]; exact ⟨rfl, rfl⟩))
    (fun os started H enc _ => lifted os started H enc)
theorem card : Rows.TypedTellsCardSaid :=
  Claim7.holds_tied_plain_at .later [] [.data, .data, .data, .sentinel, .sentinel] true (true, "4ffb9fc7fec763371f209e82badb926f37792b2d344bbb42c47f62643e9187ac") true over (fun _ h => by cases h) (by kernel_rfl) (fun _ h => by cases h) typedTells_row_tie rfl ⟨rfl, rfl⟩ (by kernel_rfl) rfl
    (fun f fn hf hfn => by
      obtain rfl : f = 3 := Option.some.inj ((show Tryz.prog.funcNamed Rows.typedTellsRow.func = some 3 by kernel_rfl).symm.trans hf) |>.symm
      obtain rfl : fn = Tryz.f3 := (Option.some.inj (Tryz.func3.symm.trans hfn)).symm
      exact ⟨by kernel_rfl, fun j t ht => by
        have hm : t ∈ Tryz.f3.params.toList := by simpa using Array.mem_of_getElem? ht
        have hall : (Tryz.f3.params.toList.all fun u => !Tryz.prog.wantsStandIn u) = true := by kernel_rfl
        exact (show Tryz.prog.wantsStandIn t = false by simpa using List.all_eq_true.1 hall t hm)⟩)
    (by kernel_rfl)
#print axioms card
end Go.Proofs.YthcijldahbalcaaGreatDoor.typedTells
namespace Go.Proofs.YthcijldahbalcaaGreatDoor
theorem typedTells_holds : Rows.TypedTellsCardSaid := typedTells.card
end Go.Proofs.YthcijldahbalcaaGreatDoor
end
