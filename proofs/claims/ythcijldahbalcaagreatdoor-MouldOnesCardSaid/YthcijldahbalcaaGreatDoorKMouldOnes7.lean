/- The law MouldOnes: its row and its card, proved; all that it rests on stands in the texts ahead of it. No conditions. -/
import Derived.Test.YthcijldahbalcaaGreatDoorKMouldOnes6
import Derived.Shelf.Strconv.Itoa0
import Derived.Shelf.Strconv.Itoa1
import Derived.Shelf.LaysM
import Derived.Shelf.Strconv.Itoa2
import Derived.Shelf.Strconv.Itoa3
import Derived.Shelf.Strconv.Itoa4
import Derived.Shelf.Strconv.ParseIntEmpty
import Derived.Shelf.Strconv.Clone
import Derived.Shelf.Strconv.SyntaxError
import Derived.Shelf.LaysC
import Derived.Shelf.Strconv.ToError
import Derived.Shelf.Strconv.Lower
import Derived.Shelf.Strconv.ParseUint10
import Derived.Shelf.Strconv.ParseUint10Empty
import Derived.Shelf.Strconv.ParseUint10Any
import Derived.Shelf.Strconv.ParseInt10
import Derived.Shelf.Strconv.RangeError
import Derived.Shelf.Strconv.ToErrorRange
import Derived.Shelf.Strconv.ParseUintEmpty
import Derived.Shelf.Strconv.ParseUint10b64
import Derived.Shelf.Strconv.ParseUint10b32
import Derived.Shelf.Strconv.ParseUint10b16
import Derived.Shelf.Strconv.ParseUint10b8
import Derived.Shelf.Strconv.ParseUint10At
import Derived.Shelf.Strconv.ParseInt10At64
import Derived.Shelf.Strconv.ParseInt10At32
import Derived.Shelf.Strconv.ParseInt10At16
import Derived.Shelf.Strconv.ParseInt10At8
import Derived.Shelf.Strconv.ParseInt10All
import Derived.Shelf.Strconv.ParseIntPublic10
import Derived.Shelf.Strconv.ErrVarParseInt
import Derived.Shelf.GgClosure.StringsIndexFunc
import Derived.Ground.GgwProg
import Derived.Shelf.GgClosure.StringsIndexFuncTop
import Derived.Shelf.GgClosure.StringsRunes
import Derived.Shelf.Strings.Prefix
import Derived.Shelf.Strings.FuncGrows
import Derived.Shelf.Slices.Turned
import Derived.Test.YthcijldahbalcaaGreatDoorProg
import Derived.Lib.AtoiErrMem
import Derived.Lib.AppendIntMem
import Derived.Test.YthcijldahbalcaaGreatDoorRows
import Derived.Stop.LaidErr
import Derived.Lib.LaidTab
import Derived.Test.YthcijldahbalcaaGreatDoorTie
import Derived.Test.YthcijldahbalcaaGreatDoorCards
import Derived.WideLaws
import Derived.ProofKit
import Derived.OpenShut
import Derived.ShutString
import Derived.ChangeOld
import Derived.SizedLaws
import Derived.ChangeSlices
import Derived.Handed
import Derived.MakeChecks
import Derived.Lay
import Derived.LaidOnce
import Derived.SevenTiedAt
import Derived.Deep.Slices
set_option linter.unusedVariables false
set_option linter.unusedSimpArgs false
section
namespace Go.Proofs
open Go.Shelf
def Tryz.laysM173_ren : Go.Shelf.Ren := ⟨fun | 173 => 94 | 246 => 128 | 283 => 149 | 284 => 150 | 285 => 151 | 286 => 152 | 129 => 165 | 317 => 164 | 318 => 166 | 319 => 167 | 320 => 168 | 337 => 178 | 338 => 179 | n => n, fun | 2 => 2 | 3 => 3 | 9 => 9 | 4 => 4 | 171 => 151 | 0 => 0 | 53 => 152 | 37 => 108 | 5 => 5 | 173 => 155 | 212 => 167 | 51 => 168 | 20 => 20 | 213 => 169 | 46 => 106 | 232 => 183 | 233 => 184 | n => n, fun | 17 => 0 | 18 => 3 | 19 => 4 | n => n⟩
theorem Tryz.laysM173 : Go.Proofs.LaysM.n173 Tryz.prog Tryz.laysM173_ren := {
  mixed := by kernel_rfl
  f129 := Tryz.func165.trans (congrArg some (by kernel_rfl))
  f173 := Tryz.func94.trans (congrArg some (by kernel_rfl))
  f246 := Tryz.func128.trans (congrArg some (by kernel_rfl))
  f283 := Tryz.func149.trans (congrArg some (by kernel_rfl))
  f284 := Tryz.func150.trans (congrArg some (by kernel_rfl))
  f285 := Tryz.func151.trans (congrArg some (by kernel_rfl))
  f286 := Tryz.func152.trans (congrArg some (by kernel_rfl))
  f317 := Tryz.func164.trans (congrArg some (by kernel_rfl))
  f318 := Tryz.func166.trans (congrArg some (by kernel_rfl))
  f319 := Tryz.func167.trans (congrArg some (by kernel_rfl))
  f320 := Tryz.func168.trans (congrArg some (by kernel_rfl))
  f337 := Tryz.func178.trans (congrArg some (by kernel_rfl))
  f338 := Tryz.func179.trans (congrArg some (by kernel_rfl))
  t0 := Tryz.underlying0
  a0 := Tryz.isAgg0
  z0 := Tryz.sizeOf0
  v0 := Tryz.zeroValue0
  t2 := Tryz.underlying2
  a2 := Tryz.isAgg2
  z2 := Tryz.sizeOf2
  v2 := Tryz.zeroValue2
  t3 := Tryz.underlying3
  a3 := Tryz.isAgg3
  z3 := Tryz.sizeOf3
  v3 := Tryz.zeroValue3
  t4 := Tryz.underlying4
  a4 := Tryz.isAgg4
  z4 := Tryz.sizeOf4
  v4 := Tryz.zeroValue4
  t5 := Tryz.underlying5
  a5 := Tryz.isAgg5
  z5 := Tryz.sizeOf5
  v5 := Tryz.zeroValue5
  t9 := Tryz.underlying9
  a9 := Tryz.isAgg9
  z9 := Tryz.sizeOf9
  v9 := Tryz.zeroValue9
  t20 := Tryz.underlying20
  a20 := Tryz.isAgg20
  z20 := Tryz.sizeOf20
  v20 := Tryz.zeroValue20
  t37 := Tryz.underlying108
  a37 := Tryz.isAgg108
  z37 := Tryz.sizeOf108
  v37 := Tryz.zeroValue108
  t46 := Tryz.underlying106
  a46 := Tryz.isAgg106
  z46 := Tryz.sizeOf106
  v46 := Tryz.zeroValue106
  t51 := Tryz.underlying168
  a51 := Tryz.isAgg168
  z51 := Tryz.sizeOf168
  v51 := Tryz.zeroValue168
  t53 := Tryz.underlying152
  a53 := Tryz.isAgg152
  z53 := Tryz.sizeOf152
  v53 := Tryz.zeroValue152
  t171 := Tryz.underlying151
  a171 := Tryz.isAgg151
  z171 := Tryz.sizeOf151
  v171 := Tryz.zeroValue151
  t173 := Tryz.underlying155
  a173 := Tryz.isAgg155
  z173 := Tryz.sizeOf155
  v173 := Tryz.zeroValue155
  t212 := Tryz.underlying167
  a212 := Tryz.isAgg167
  z212 := Tryz.sizeOf167
  v212 := Tryz.zeroValue167
  t213 := Tryz.underlying169
  a213 := Tryz.isAgg169
  z213 := Tryz.sizeOf169
  t232 := Tryz.underlying183
  a232 := Tryz.isAgg183
  z232 := Tryz.sizeOf183
  v232 := Tryz.zeroValue183
  t233 := Tryz.underlying184
  a233 := Tryz.isAgg184
  z233 := Tryz.sizeOf184
  v233 := Tryz.zeroValue184
  g17 := by kernel_rfl
  g18 := by kernel_rfl
  g19 := by kernel_rfl
  i0 := by kernel_rfl
  i2 := by kernel_rfl
  i3 := by kernel_rfl
  i4 := by kernel_rfl
  i5 := by kernel_rfl
  i9 := by kernel_rfl
  i20 := by kernel_rfl
  i37 := by kernel_rfl
  i46 := by kernel_rfl
  i51 := by kernel_rfl
  i53 := by kernel_rfl
  i171 := by kernel_rfl
  i173 := by kernel_rfl
  i212 := by kernel_rfl
  i232 := by kernel_rfl
  i233 := by kernel_rfl
  m17 := by kernel_rfl
  m18 := by kernel_rfl
  m19 := by kernel_rfl }
open Go.RowKit Go.Sort Go.Lib in
theorem Tryz.strconv_FormatInt_10 (n : Int) (h0 : -9223372036854775808 ≤ n) (h1 : n ≤ 9223372036854775807) (w : World) (htab : Lib.TabIs Tryz.prog w "internal/strconv.uint64pow10" .u64 Lib.pow10Tab) :
    Calls Tryz.prog 94 #[.int .i64 n, .int .i64 10] w fun e w' => e = .returned (.string ⟨(Lib.itoa n).toArray⟩) ∧ ∃ k os, w' = grow (w.drewN k) os := Any.strconv_FormatInt_10 Tryz.laysM173 n h0 h1 w htab
def Tryz.laysC174_ren : Go.Shelf.Ren := ⟨fun | 174 => 127 | 247 => 147 | 245 => 148 | 287 => 159 | 279 => 160 | 280 => 161 | 281 => 162 | 282 => 163 | 321 => 173 | 322 => 174 | 316 => 175 | 171 => 177 | 205 => 176 | 243 => 180 | 246 => 128 | 283 => 149 | 284 => 150 | 285 => 151 | 286 => 152 | 129 => 165 | 317 => 164 | 318 => 166 | 319 => 167 | 320 => 168 | 337 => 178 | 338 => 179 | n => n, fun | 9 => 9 | 3 => 3 | 2 => 2 | 75 => 135 | 85 => 136 | 4 => 4 | 167 => 159 | 5 => 5 | 53 => 152 | 175 => 160 | 46 => 106 | 168 => 162 | 37 => 108 | 0 => 0 | 210 => 176 | 21 => 21 | 127 => 179 | 145 => 182 | 143 => 180 | 171 => 151 | 173 => 155 | 212 => 167 | 51 => 168 | 20 => 20 | 213 => 169 | 232 => 183 | 233 => 184 | 80 => 185 | n => n, fun | 15 => 1 | 16 => 2 | 17 => 0 | 18 => 3 | 19 => 4 | n => n⟩
theorem Tryz.laysC174 : Go.Proofs.LaysC.n174 Tryz.prog Tryz.laysC174_ren := {
  mixed := by kernel_rfl
  f129 := Tryz.func165.trans (congrArg some (by kernel_rfl))
  f171 := Tryz.func177.trans (congrArg some (by kernel_rfl))
  f174 := Tryz.func127.trans (congrArg some (by kernel_rfl))
  f205 := Tryz.func176.trans (congrArg some (by kernel_rfl))
  f243 := Tryz.func180.trans (congrArg some (by kernel_rfl))
  f245 := Tryz.func148.trans (congrArg some (by kernel_rfl))
  f246 := Tryz.func128.trans (congrArg some (by kernel_rfl))
  f247 := Tryz.func147.trans (congrArg some (by kernel_rfl))
  f279 := Tryz.func160.trans (congrArg some (by kernel_rfl))
  f280 := Tryz.func161.trans (congrArg some (by kernel_rfl))
  f281 := Tryz.func162.trans (congrArg some (by kernel_rfl))
  f282 := Tryz.func163.trans (congrArg some (by kernel_rfl))
  f283 := Tryz.func149.trans (congrArg some (by kernel_rfl))
  f284 := Tryz.func150.trans (congrArg some (by kernel_rfl))
  f285 := Tryz.func151.trans (congrArg some (by kernel_rfl))
  f286 := Tryz.func152.trans (congrArg some (by kernel_rfl))
  f287 := Tryz.func159.trans (congrArg some (by kernel_rfl))
  f316 := Tryz.func175.trans (congrArg some (by kernel_rfl))
  f317 := Tryz.func164.trans (congrArg some (by kernel_rfl))
  f318 := Tryz.func166.trans (congrArg some (by kernel_rfl))
  f319 := Tryz.func167.trans (congrArg some (by kernel_rfl))
  f320 := Tryz.func168.trans (congrArg some (by kernel_rfl))
  f321 := Tryz.func173.trans (congrArg some (by kernel_rfl))
  f322 := Tryz.func174.trans (congrArg some (by kernel_rfl))
  f337 := Tryz.func178.trans (congrArg some (by kernel_rfl))
  f338 := Tryz.func179.trans (congrArg some (by kernel_rfl))
  t0 := Tryz.underlying0
  a0 := Tryz.isAgg0
  z0 := Tryz.sizeOf0
  v0 := Tryz.zeroValue0
  t2 := Tryz.underlying2
  a2 := Tryz.isAgg2
  z2 := Tryz.sizeOf2
  v2 := Tryz.zeroValue2
  t3 := Tryz.underlying3
  a3 := Tryz.isAgg3
  z3 := Tryz.sizeOf3
  v3 := Tryz.zeroValue3
  t4 := Tryz.underlying4
  a4 := Tryz.isAgg4
  z4 := Tryz.sizeOf4
  v4 := Tryz.zeroValue4
  t5 := Tryz.underlying5
  a5 := Tryz.isAgg5
  z5 := Tryz.sizeOf5
  v5 := Tryz.zeroValue5
  t9 := Tryz.underlying9
  a9 := Tryz.isAgg9
  z9 := Tryz.sizeOf9
  v9 := Tryz.zeroValue9
  t20 := Tryz.underlying20
  a20 := Tryz.isAgg20
  z20 := Tryz.sizeOf20
  v20 := Tryz.zeroValue20
  t21 := Tryz.underlying21
  a21 := Tryz.isAgg21
  z21 := Tryz.sizeOf21
  v21 := Tryz.zeroValue21
  t37 := Tryz.underlying108
  a37 := Tryz.isAgg108
  z37 := Tryz.sizeOf108
  v37 := Tryz.zeroValue108
  t46 := Tryz.underlying106
  a46 := Tryz.isAgg106
  z46 := Tryz.sizeOf106
  v46 := Tryz.zeroValue106
  t51 := Tryz.underlying168
  a51 := Tryz.isAgg168
  z51 := Tryz.sizeOf168
  v51 := Tryz.zeroValue168
  t53 := Tryz.underlying152
  a53 := Tryz.isAgg152
  z53 := Tryz.sizeOf152
  v53 := Tryz.zeroValue152
  t75 := Tryz.underlying135
  a75 := Tryz.isAgg135
  z75 := Tryz.sizeOf135
  v75 := Tryz.zeroValue135
  t85 := Tryz.underlying136
  a85 := Tryz.isAgg136
  z85 := Tryz.sizeOf136
  v85 := Tryz.zeroValue136
  t127 := Tryz.underlying179
  a127 := Tryz.isAgg179
  z127 := Tryz.sizeOf179
  v127 := Tryz.zeroValue179
  t143 := Tryz.underlying180
  a143 := Tryz.isAgg180
  z143 := Tryz.sizeOf180
  v143 := Tryz.zeroValue180
  t145 := Tryz.underlying182
  a145 := Tryz.isAgg182
  z145 := Tryz.sizeOf182
  v145 := Tryz.zeroValue182
  t167 := Tryz.underlying159
  a167 := Tryz.isAgg159
  z167 := Tryz.sizeOf159
  v167 := Tryz.zeroValue159
  t168 := Tryz.underlying162
  a168 := Tryz.isAgg162
  z168 := Tryz.sizeOf162
  v168 := Tryz.zeroValue162
  t171 := Tryz.underlying151
  a171 := Tryz.isAgg151
  z171 := Tryz.sizeOf151
  v171 := Tryz.zeroValue151
  t173 := Tryz.underlying155
  a173 := Tryz.isAgg155
  z173 := Tryz.sizeOf155
  v173 := Tryz.zeroValue155
  t175 := Tryz.underlying160
  a175 := Tryz.isAgg160
  z175 := Tryz.sizeOf160
  v175 := Tryz.zeroValue160
  t210 := Tryz.underlying176
  a210 := Tryz.isAgg176
  z210 := Tryz.sizeOf176
  v210 := Tryz.zeroValue176
  t212 := Tryz.underlying167
  a212 := Tryz.isAgg167
  z212 := Tryz.sizeOf167
  v212 := Tryz.zeroValue167
  t213 := Tryz.underlying169
  a213 := Tryz.isAgg169
  z213 := Tryz.sizeOf169
  t232 := Tryz.underlying183
  a232 := Tryz.isAgg183
  z232 := Tryz.sizeOf183
  v232 := Tryz.zeroValue183
  t233 := Tryz.underlying184
  a233 := Tryz.isAgg184
  z233 := Tryz.sizeOf184
  v233 := Tryz.zeroValue184
  g15 := by kernel_rfl
  g16 := by kernel_rfl
  g17 := by kernel_rfl
  g18 := by kernel_rfl
  g19 := by kernel_rfl
  t80 := Tryz.underlying185
  a80 := Tryz.isAgg185
  z80 := Tryz.sizeOf185
  v80 := Tryz.zeroValue185
  i0 := by kernel_rfl
  i2 := by kernel_rfl
  i3 := by kernel_rfl
  i4 := by kernel_rfl
  i5 := by kernel_rfl
  i9 := by kernel_rfl
  i20 := by kernel_rfl
  i21 := by kernel_rfl
  i37 := by kernel_rfl
  i46 := by kernel_rfl
  i51 := by kernel_rfl
  i53 := by kernel_rfl
  i75 := by kernel_rfl
  i80 := by kernel_rfl
  i85 := by kernel_rfl
  i127 := by kernel_rfl
  i143 := by kernel_rfl
  i145 := by kernel_rfl
  i167 := by kernel_rfl
  i168 := by kernel_rfl
  i171 := by kernel_rfl
  i173 := by kernel_rfl
  i175 := by kernel_rfl
  i210 := by kernel_rfl
  i212 := by kernel_rfl
  i232 := by kernel_rfl
  i233 := by kernel_rfl
  m15 := by kernel_rfl
  m16 := by kernel_rfl
  m17 := by kernel_rfl
  m18 := by kernel_rfl
  m19 := by kernel_rfl
  c0 := by kernel_rfl
  c2 := by kernel_rfl
  c3 := by kernel_rfl
  c4 := by kernel_rfl
  c5 := by kernel_rfl
  c9 := by kernel_rfl
  c20 := by kernel_rfl
  c21 := by kernel_rfl
  c37 := by kernel_rfl
  c46 := by kernel_rfl
  c51 := by kernel_rfl
  c53 := by kernel_rfl
  c75 := by kernel_rfl
  c80 := by kernel_rfl
  c85 := by kernel_rfl
  c127 := by kernel_rfl
  c143 := by kernel_rfl
  c145 := by kernel_rfl
  c167 := by kernel_rfl
  c168 := by kernel_rfl
  c171 := by kernel_rfl
  c173 := by kernel_rfl
  c175 := by kernel_rfl
  c210 := by kernel_rfl
  c212 := by kernel_rfl
  c213 := by kernel_rfl
  c232 := by kernel_rfl
  c233 := by kernel_rfl }
open Go.RowKit in
theorem Tryz.strconv_ParseInt_10_at64_ok (s : ByteArray) (hmax : s.size ≤ 9223372036854775806) (v : Int) (h : Lib.parseIntB 64 s.data.toList = .ok v) (w : World) :
    Calls Tryz.prog 127 #[.string s, .int .i64 10, .int .i64 64] w fun e w' => e = .returned (.tuple #[.int .i64 v, .nilIface]) ∧ (w' = w ∨ ∃ t, w' = Lib.bytesWorld w 5 t) := Any.strconv_ParseInt_10_at64_ok Tryz.laysC174 s hmax v h w
open Go.RowKit in
theorem Tryz.strconv_ParseInt_10_at64_range_var (s : ByteArray) (hlim : s.size ≤ 281474976710656) (h : Lib.parseIntB 64 s.data.toList = .range) (tp : TypeId) (p : Value) (w : World) (hvar : w.var? Tryz.prog "strconv.ErrRange" = some #[.iface tp p]) :
    Calls Tryz.prog 127 #[.string s, .int .i64 10, .int .i64 64] w fun e w' => ∃ N, e = .returned (.tuple #[.int .i64 (Lib.intSat 64 s.data.toList), .iface 162 (.pointer (some ⟨N, 0, none⟩))]) ∧ w.heap.size ≤ N ∧ w'.heap[N]? = some (.cells #[.string ⟨#[80, 97, 114, 115, 101, 73, 110, 116]⟩, .string s, .iface tp p] 176 (0, 0)) ∧ Below w.heap.size w w' := Any.strconv_ParseInt_10_at64_range_var Tryz.laysC174 s hlim h tp p w hvar
end Go.Proofs
end
section
namespace Go.Proofs.YthcijldahbalcaaGreatDoor.Q
open Go Go.PM Go.RowKit
set_option maxRecDepth 100000
set_option maxHeartbeats 4000000
theorem var_of {w : World} {n : String} {g : Nat} {cs : Array Value} (hn : Tryz.prog.globalNamed n = some g) (h : ∃ e z, w.heap[g]? = some (.cells cs e z)) : w.var? Tryz.prog n = some cs := by
  obtain ⟨e, z, h⟩ := h
  unfold World.var?
  rw [hn]
  show (match w.heap[g]? with | some (.cells cs _ _) => some cs | _ => none) = _
  rw [h]
theorem tab_of {w : World} {N : Nat → Prop} (hG : GlobRel C w N) : Lib.TabIs Tryz.prog w "internal/strconv.uint64pow10" .u64 Lib.pow10Tab := by
  obtain ⟨_, o, ho, e, z, rfl⟩ := hG.fix 0 _ rfl
  exact var_of (by kernel_rfl) ⟨e, z, ho⟩
theorem rng_of {w : World} {N : Nat → Prop} (hG : GlobRel C w N) : ∃ tp p, w.var? Tryz.prog "strconv.ErrRange" = some #[.iface tp p] := by
  obtain ⟨_, o, ho, tp, p, e, z, rfl⟩ := hG.fix 2 _ rfl
  exact ⟨tp, p, var_of (by kernel_rfl) ⟨e, z, ho⟩⟩
theorem fmt_ok (args : List DV) (v : DV) (hs' : List (Option Blk)) (hx : fmtX args = some (v, hs')) : CallOK C 94 args [] v hs' := by
  unfold fmtX at hx
  split at hx
  · rename_i n b
    split at hx
    · rename_i hc
      obtain ⟨rfl, h0, h1⟩ := hc
      cases hx
      refine ext_below (fun w N vals hG hv => ?_) rfl
      obtain ⟨x0, r0, rfl, rfl, hv⟩ := hv
      obtain ⟨x1, r1, rfl, rfl, hv⟩ := hv
      obtain rfl : r1 = [] := hv
      refine (Tryz.strconv_FormatInt_10 n h0 h1 w (tab_of hG)).mono ?_
      rintro e w' ⟨rfl, k, os, rfl⟩
      exact ⟨_, rfl, Lib.below_grow _ _ (Nat.le_refl _) _ _, fun w N φ => ⟨_, rfl, by rw [itoa_eq, intF_eq n h0 h1]⟩⟩
    · cases hx
  · cases hx
theorem parse_ok (args : List DV) (v : DV) (hs' : List (Option Blk)) (hx : parseX 162 args = some (v, hs')) : CallOK C 127 args [] v hs' := by
  unfold parseX at hx
  split at hx
  · rename_i s b z
    split at hx
    · rename_i hc
      obtain ⟨rfl, rfl, hs⟩ := hc
      split at hx
      · rename_i n hp
        cases hx
        refine ext_below (fun w N vals hG hv => ?_) rfl
        obtain ⟨x0, r0, rfl, ⟨t, rfl, ht⟩, hv⟩ := hv
        obtain ⟨x1, r1, rfl, rfl, hv⟩ := hv
        obtain ⟨x2, r2, rfl, rfl, hv⟩ := hv
        obtain rfl : r2 = [] := hv
        have hsz : t.size = s.length := by rw [← ht]; rfl
        refine (Tryz.strconv_ParseInt_10_at64_ok t (by omega) n (by rw [ht]; exact hp) w).mono ?_
        rintro e w' ⟨rfl, hw⟩
        refine ⟨_, rfl, ?_, fun w N φ => ⟨_, rfl, _, _, rfl, rfl, _, _, rfl, rfl, rfl⟩⟩
        rcases hw with rfl | ⟨t, rfl⟩
        · exact Below.refl _ _
        · exact Lib.bytesWorld_below _ _ _
      · rename_i hp
        cases hx
        refine ext_below (fun w N vals hG hv => ?_) rfl
        obtain ⟨x0, r0, rfl, ⟨t, rfl, ht⟩, hv⟩ := hv
        obtain ⟨x1, r1, rfl, rfl, hv⟩ := hv
        obtain ⟨x2, r2, rfl, rfl, hv⟩ := hv
        obtain rfl : r2 = [] := hv
        have hsz : t.size = s.length := by rw [← ht]; rfl
        obtain ⟨tp, p, hr⟩ := rng_of hG
        refine (Tryz.strconv_ParseInt_10_at64_range_var t (by omega) (by rw [ht]; exact hp) tp p w hr).mono ?_
        rintro e w' ⟨N1, rfl, _, _, hb⟩
        refine ⟨_, rfl, hb, fun w N φ => ⟨_, rfl, _, _, rfl, by rw [ht]; rfl, _, _, rfl, ⟨_, rfl, rfl⟩, rfl⟩⟩
      · cases hx
    · cases hx
  · cases hx
theorem ok : CfgOK C := { body := ok0.body, mixed := ok0.mixed, seqs := ok0.seqs, code := ok0.code, ext := (by
  intro g x h args v hs' hx
  change (if g = 47 then some (cloneX 3 1 8) else if g = 72 then some (cloneX 9 1 16) else if g = 94 then some fmtX else if g = 127 then some (parseX 162) else none) = some x at h
  split at h
  · rename_i hg
    subst hg
    cases h
    exact cloneI_ok _ _ _ hx
  · split at h
    · rename_i _ hg
      subst hg
      cases h
      exact cloneS_ok _ _ _ hx
    · split at h
      · rename_i _ _ hg
        subst hg
        cases h
        exact fmt_ok _ _ _ hx
      · split at h
        · rename_i _ _ _ hg
          subst hg
          cases h
          exact parse_ok _ _ _ hx
        · cases h) }
end Go.Proofs.YthcijldahbalcaaGreatDoor.Q
end
section
namespace Go.Proofs.YthcijldahbalcaaGreatDoor.Q
open Go Go.PM Go.RowKit
set_option linter.unusedVariables false
theorem tabE : (Rows.laid_internal_strconv_uint64pow10 : DataW Unit) = Lib.tabData .u64 Lib.pow10Tab := by kernel_rfl
theorem starE : "*" ++ "errors.errorString" = "*errors.errorString" := by decide
theorem rowE (u : TypeId) (h : Tryz.prog.typeName? 3 u = some "*errors.errorString") : u = 180 :=
  typeName_ptr_named (nm := "errors.errorString") (by rw [starE]; kernel_rfl) (by kernel_rfl) (by decide) u (by rw [starE]; exact h)
theorem of_var {w : World} {n : String} {g : Nat} {cs : Array Value} (hn : Tryz.prog.globalNamed n = some g) (h : w.var? Tryz.prog n = some cs) : ∃ o, w.heap[g]? = some o ∧ ∃ e z, o = .cells cs e z := by
  unfold World.var? at h
  rw [hn] at h
  change (match w.heap[g]? with | some (.cells cs _ _) => some cs | _ => none) = some cs at h
  split at h
  · rename_i c e z ho
    cases h
    exact ⟨_, ho, e, z, rfl⟩
  · cases h
theorem globs {W : World} (h : laidMet Tryz.prog [("math/bits.deBruijn32tab", Rows.laid_math_bits_deBruijn32tab), ("math/bits.deBruijn64tab", Rows.laid_math_bits_deBruijn64tab), ("internal/strconv.uint64pow10", Rows.laid_internal_strconv_uint64pow10), ("strconv.ErrRange", Rows.laid_strconv_ErrRange), ("strconv.ErrSyntax", Rows.laid_strconv_ErrSyntax)] W) : GlobRel C W (fun _ => False) := by
  have h2 := h.tail.tail
  rw [tabE] at h2
  have ht := Lib.tabIs_of_head (g := 0) (t := 167) (e := 152) (n := 20) (by kernel_rfl) (by kernel_rfl) (by kernel_rfl) (by kernel_rfl) (by kernel_rfl) (by kernel_rfl) h2
  obtain ⟨a, s, hv, _⟩ := laid_sentinel (g := 2) (ti := 135) (tp := 180) (te := 182) (ts := 9) h.tail.tail.tail (by kernel_rfl) (by kernel_rfl) Tryz.underlying135 rowE (by kernel_rfl) Tryz.underlying182 (by kernel_rfl) (by kernel_rfl) (by kernel_rfl) (by kernel_rfl) (by kernel_rfl)
  refine ⟨fun g d hd => (by cases hd), fun g q hq => ?_⟩
  change (if g = 0 then some (fun o => ∃ e z, o = Obj.cells (Lib.pow10Tab.map fun n => Value.int .u64 n).toArray e z) else if g = 2 then some (fun o => ∃ tp p e z, o = Obj.cells #[.iface tp p] e z) else none) = some q at hq
  split at hq
  · rename_i hg
    subst hg
    cases hq
    obtain ⟨o, ho, hx⟩ := of_var (by kernel_rfl) ht
    exact ⟨fun h => h, o, ho, hx⟩
  · split at hq
    · rename_i _ hg
      subst hg
      cases hq
      obtain ⟨o, ho, e, z, hx⟩ := of_var (by kernel_rfl) hv
      exact ⟨fun h => h, o, ho, _, _, e, z, hx⟩
    · cases hq
end Go.Proofs.YthcijldahbalcaaGreatDoor.Q
end
section
namespace Go.Proofs.YthcijldahbalcaaGreatDoor.Q
open Go Go.PM Go.RowKit
set_option maxRecDepth 100000
set_option maxHeartbeats 2000000
theorem shown14 : C.run (.call 21 [] []) = some (.done (.bool true) []) := run_of_runN C 300 _ _ (by kernel_rfl)
theorem few_sm {s : List Int} {l : List Tx} (h : few4 s l = true) : SmV (s, l) := by
  unfold few4 fewF at h
  simp only [Bool.and_eq_true, decide_eq_true_eq] at h
  refine ⟨by dsimp only; omega, by dsimp only; omega, fun x hx => ?_⟩
  have h1 : x ∈ l.take 301 := by
    rw [List.take_of_length_le (by omega)]
    exact hx
  have := List.all_eq_true.1 h.1 x h1
  simp at this
  omega
theorem same_ok (p : VP) (h1 : p.1.length < 1000000) (h2 : p.2.length < 1000000) : C.run (.call 35 [vE p, vE p] []) = some (.done (.bool true) []) := by
  have := VSame p.1 p.1 p.2 p.2 (by omega) (by omega) (by omega) (by omega)
  rwa [decide_eq_true rfl, decide_eq_true rfl] at this
theorem O_few (v : VP) (hv : v.2.length ≤ 9223372036854775807) (h : few4 v.1 v.2 = false) : C.run (.call 4 [vE v] []) = some (.done (.bool true) []) := by
  have hs := shown14
  have f1 := Few4 v.1 v.2 hv
  rw [h] at f1
  refine run_of_step _ ?_
  refine call_told (fn := Tryz.f4) (by kernel_rfl) rfl ?_
  repeat' (first | refine wl_nil ?_ | refine wk_nil ?_ | refine wc_seq ?_ | refine kR ?_ | refine jR ?_ | refine wc_skip ?_ | refine wc_ret ?_ | refine wc_exit ?_ | refine wc_block ?_ | refine wc_scope ?_ | refine wc_label ?_ | refine wn_go ?_ | refine wn_ret ?_ | refine wn_exit ?_ | refine wx_go ?_ | refine wx_ret ?_ | refine wx_here ?_ | refine kX ?_ | (refine kF (fun ht => ?_) (fun ht => ?_) <;> first | (cases ht; done) | skip) | (refine kB (fun hb => ?_) (fun hb => ?_) <;> first | (cases hb; done) | (exact absurd hb (by decide)) | skip) | (refine jB (fun hb => ?_) (fun hb => ?_) <;> first | (cases hb; done) | (exact absurd hb (by decide)) | skip) | refine kH ?_ | refine kM ?_ | refine jM ?_ | refine kMi ?_ | refine jMi ?_ | refine kV ?_ | refine kE ?_ | refine jV ?_ | refine jE ?_ | refine kN ?_ | refine jN ?_ | refine kC ?_ | refine kSh ?_ | refine jC ?_ | refine kI ?_ | refine jI ?_ | refine kS ?_ | refine jS ?_ | refine kP ?_ | refine jP ?_ | refine kD ?_ | refine jD ?_ | refine kT ?_ | refine jT ?_ | refine kQ ?_ | refine jQ ?_ | refine kAo ?_ | refine jAp ?_ | refine kAr ?_ | refine kMk ?_ | refine jAr ?_ | refine kAn ?_ | refine jAm ?_ | refine kW ?_ | refine jW ?_ | refine kG ?_ | refine jG ?_ | refine kL ?_ | refine jL ?_ | refine kJ ?_ | refine jJ ?_)
  exact eq_ret rfl rfl
theorem O_fine (s : List Int) (l : List Tx) (p0 p1 p2 p3 p4 p5 : VP) (e0 e1 e2 e3 e4 e5 : Int) (hs : C.run (.call 21 [] []) = some (.done (.bool true) [])) (f1 : C.run (.call 22 [vD s l] []) = some (.done (.bool true) []))
    (m0 : C.run (.call 23 [vD s l] []) = some (.done (.tuple [vE p0, .int .i64 e0]) [])) (r0 : C.run (.call 24 [vD s l] []) = some (.done (.tuple [vE p0, .int .i64 e0]) [])) (q0 : C.run (.call 35 [vE p0, vE p0] []) = some (.done (.bool true) [])) (m1 : C.run (.call 25 [vD s l] []) = some (.done (.tuple [vE p1, .int .i64 e1]) [])) (r1 : C.run (.call 26 [vD s l] []) = some (.done (.tuple [vE p1, .int .i64 e1]) [])) (q1 : C.run (.call 35 [vE p1, vE p1] []) = some (.done (.bool true) [])) (m2 : C.run (.call 27 [vD s l] []) = some (.done (.tuple [vE p2, .int .i64 e2]) [])) (r2 : C.run (.call 28 [vD s l] []) = some (.done (.tuple [vE p2, .int .i64 e2]) [])) (q2 : C.run (.call 35 [vE p2, vE p2] []) = some (.done (.bool true) [])) (m3 : C.run (.call 29 [vD s l] []) = some (.done (.tuple [vE p3, .int .i64 e3]) [])) (r3 : C.run (.call 30 [vD s l] []) = some (.done (.tuple [vE p3, .int .i64 e3]) [])) (q3 : C.run (.call 35 [vE p3, vE p3] []) = some (.done (.bool true) [])) (m4 : C.run (.call 31 [vD s l] []) = some (.done (.tuple [vE p4, .int .i64 e4]) [])) (r4 : C.run (.call 32 [vD s l] []) = some (.done (.tuple [vE p4, .int .i64 e4]) [])) (q4 : C.run (.call 35 [vE p4, vE p4] []) = some (.done (.bool true) [])) (m5 : C.run (.call 33 [vD s l] []) = some (.done (.tuple [vE p5, .int .i64 e5]) [])) (r5 : C.run (.call 34 [vD s l] []) = some (.done (.tuple [vE p5, .int .i64 e5]) [])) (q5 : C.run (.call 35 [vE p5, vE p5] []) = some (.done (.bool true) [])) : C.run (.call 4 [vD s l] []) = some (.done (.bool true) []) := by
  refine run_of_step _ ?_
  refine call_told (fn := Tryz.f4) (by kernel_rfl) rfl ?_
  repeat' (first | (exact eq_ret rfl rfl) | (exfalso; simp at hb; done) | (first | refine wl_nil ?_ | refine wk_nil ?_ | refine wc_seq ?_ | refine kR ?_ | refine jR ?_ | refine wc_skip ?_ | refine wc_ret ?_ | refine wc_exit ?_ | refine wc_block ?_ | refine wc_scope ?_ | refine wc_label ?_ | refine wn_go ?_ | refine wn_ret ?_ | refine wn_exit ?_ | refine wx_go ?_ | refine wx_ret ?_ | refine wx_here ?_ | refine kX ?_ | (refine kF (fun ht => ?_) (fun ht => ?_) <;> first | (cases ht; done) | skip) | (refine kB (fun hb => ?_) (fun hb => ?_) <;> first | (cases hb; done) | (exact absurd hb (by decide)) | skip) | (refine jB (fun hb => ?_) (fun hb => ?_) <;> first | (cases hb; done) | (exact absurd hb (by decide)) | skip) | refine kH ?_ | refine kM ?_ | refine jM ?_ | refine kMi ?_ | refine jMi ?_ | refine kV ?_ | refine kE ?_ | refine jV ?_ | refine jE ?_ | refine kN ?_ | refine jN ?_ | refine kC ?_ | refine kSh ?_ | refine jC ?_ | refine kI ?_ | refine jI ?_ | refine kS ?_ | refine jS ?_ | refine kP ?_ | refine jP ?_ | refine kD ?_ | refine jD ?_ | refine kT ?_ | refine jT ?_ | refine kQ ?_ | refine jQ ?_ | refine kAo ?_ | refine jAp ?_ | refine kAr ?_ | refine kMk ?_ | refine jAr ?_ | refine kAn ?_ | refine jAm ?_ | refine kW ?_ | refine jW ?_ | refine kG ?_ | refine jG ?_ | refine kL ?_ | refine jL ?_ | refine kJ ?_ | refine jJ ?_))
def noV : VP := ([], [])
def iotaP (n e : Int) : VP × Int := if e ≠ 0 then (noV, e) else if n < 0 then (noV, 5) else if n > 4096 then (noV, 8) else (([n], (iotaL n.toNat).map intT), 0)
theorem iotaP_eq (n e : Int) : iotaR n e = .tuple [vE (iotaP n e).1, .int .i64 (iotaP n e).2] := by
  unfold iotaR iotaP
  split
  · rfl
  · split
    · rfl
    · split <;> rfl
theorem iotaP_sm (n e : Int) : (iotaP n e).1.1.length < 1000000 ∧ (iotaP n e).1.2.length < 1000000 := by
  unfold iotaP
  split
  · exact ⟨by simp [noV], by simp [noV]⟩
  · split
    · exact ⟨by simp [noV], by simp [noV]⟩
    · split
      · exact ⟨by simp [noV], by simp [noV]⟩
      · exact ⟨by simp, by simp [iotaL]; omega⟩
theorem MouldOnes (v : VP) (hv : v.2.length ≤ 9223372036854775807) : C.run (.call 4 [vE v] []) = some (.done (.bool true) []) := by
  cases hfew : few4 v.1 v.2 with
  | false => exact O_few v hv hfew
  | true =>
    obtain ⟨s, l⟩ := v
    dsimp only at hfew
    have hsm := few_sm hfew
    have hl0 : l.length < 1000000 := hsm.2.1
    have f1 := Few4 s l (by omega)
    rw [hfew] at f1
    have hno := same_ok noV (by simp [noV]) (by simp [noV])
    cases hmay : vmayF s l with
    | false => exact O_fine s l noV noV noV noV noV noV 1 1 1 1 1 1 shown14 f1 (MIota_no s l hsm hmay) (RIota_no s l hsm hmay) hno (MTally_no s l hsm hmay) (RTally_no s l hsm hmay) hno (MShape_no s l hsm hmay) (RShape_no s l hsm hmay) hno (MRavel_no s l hsm hmay) (RRavel_no s l hsm hmay) hno (MReverse_no s l hsm hmay) (RReverse_no s l hsm hmay) hno (MFlip_no s l hsm hmay) (RFlip_no s l hsm hmay) hno
    | true =>
      have ok := vmay_ok hmay
      have hsl := ok.sh.len
      have i1 := MIota s l hmay
      have i2 := RIota s l hmay
      rw [iotaP_eq] at i1 i2
      have ib := iotaP_sm (intFv s l).1 (intFv s l).2
      exact O_fine s l (iotaP (intFv s l).1 (intFv s l).2).1 ([], [intT (s.headD 1)]) ([(s.length : Int)], s.map intT) ([(l.length : Int)], l) (s, revF s l) (s.reverse, flipF s l) (iotaP (intFv s l).1 (intFv s l).2).2 0 0 0 0 0 shown14 f1 i1 i2 (same_ok _ ib.1 ib.2)
        (MTally s l hmay) (RTally s l hmay) (same_ok _ (by simp) (by simp)) (MShape s l hmay) (RShape s l hmay) (same_ok _ (by simp) (by simp; omega)) (MRavel s l hmay) (RRavel s l hmay) (same_ok _ (by simp) hl0)
        (MReverse s l hmay) (RReverse s l hmay) (same_ok _ (by show s.length < 1000000; omega) (by show (revF s l).length < 1000000; rw [revF_len ok]; exact hl0)) (MFlip s l hmay) (RFlip s l hmay) (same_ok _ (by show s.reverse.length < 1000000; rw [List.length_reverse]; omega) (by show (flipF s l).length < 1000000; rw [flipF_len]; exact hl0))
theorem lawMouldOnes (s1 : List Int) (_ : s1.length ≤ maxLen ∧ ∀ x ∈ s1, (Lit.int .i64 x).wf = true) (l1 : List Tx) (k1 : l1.length ≤ maxLen ∧ ∀ x ∈ l1, x.length ≤ maxLen) : C.run (.call 4 [vD s1 l1] []) = some (.done (.bool true) []) :=
  MouldOnes (s1, l1) k1.1
end Go.Proofs.YthcijldahbalcaaGreatDoor.Q
end
section
namespace Go.Proofs.YthcijldahbalcaaGreatDoor.mouldOnes
open Go.ChangeShapes Go.WideShapes Go.ChangeAt Go.RowKit Go.PM
open Go.ChangeMaps (open_string shut_string)
set_option linter.unusedVariables false
theorem own : ownKnob Tryz.prog.godebug = none := by kernel_rfl
theorem laidOut : laidOutB Tryz.prog = true := by kernel_rfl
set_option maxRecDepth 100000 in
theorem lifted (os : Os) (started : os.Started) (H : Type) (enc : TypeId × Value → H) :
    ReturnsInHanded {} Tryz.checked os 4 .any (fun w args => (Rows.mouldOnesSpec.pre enc Tryz.prog Tryz.f4 [] false w args ∧ laidMetH Tryz.prog Rows.mouldOnesRow.laid w) ∧ sizedMet enc Tryz.prog Tryz.f4 (OpenSpec.ofChange Rows.mouldOnesSpec) false w args) (Rows.mouldOnesSpec.post enc Tryz.prog Tryz.f4 false true false false) := by
  refine returnsInHanded_of_change_and (C := Tryz.checked) (X := (fun w _ => laidMetH Tryz.prog Rows.mouldOnesRow.laid w)) (fun _ _ _ hh h => h.of_heap hh) own started (by kernel_rfl) Tryz.func4
    (ChangeSpec.witness_shaped (enc := enc) (C := Tryz.checked) (os := os) (X := (fun w _ => laidMetH Tryz.prog Rows.mouldOnesRow.laid w)) false (World.laidAll Tryz.prog os Rows.mouldOnesRow.laid) #[.agg #[.slice none 0 0, .slice none 0 0]] 8 (World.laidAll_os _ _ _)
      (World.shaped_of_ZipB (by kernel_rfl) (by kernel_rfl)) (by kernel_rfl) (by kernel_rfl) (by kernel_rfl)
      (by rw [MakeChecks.laidMetH_plain _ _ _ (by kernel_rfl)]; exact laidMet_laidAll _ (by kernel_rfl) (by kernel_rfl))) ?_
  intro W base args ds gs before hval0 hW hcnd hsz0 hL _
  have hG : GlobRel Q.C W (fun _ => False) := Q.globs (by rw [MakeChecks.laidMetH_plain _ _ _ (by kernel_rfl)] at hL; exact hL)
  have hval : ∀ (j : Nat) t v, Tryz.f4.params[j]? = some t → args[j]? = some v → Value.okWide Tryz.prog W .any base t v := hval0
  have hW' := hW
  obtain ⟨p, q, hA0, hV, rfl, hfz, hnd⟩ := hW
  have hA : DataW.TrodAll enc Tryz.prog W 0 (fun _ => true) true Tryz.f4.params.toList args.toList ds p := hA0
  rw [Tryz.params4] at hA hval
  obtain ⟨v0, vs0, d0, ds0, p0, q0, hargs, rfl, rfl, h0, r0⟩ := trodAll_cons hA
  obtain ⟨rfl, rfl, rfl⟩ := trodAll_nil r0
  obtain rfl : args = #[v0] := by cases args; simp_all
  obtain ⟨rfl, rfl⟩ := trodVars_none hV
  have hN : ∀ b, ¬ (fun _ : Nat => False) b := fun _ h => h
  have k0 := h0
  have lt0 := trod_places h0
  obtain ⟨a0, rep0, w0⟩ := arg_agg (N := fun _ => False) Tryz.underlying34 (reads_struct Tryz.underlying34 (by kernel_rfl) (readsF_cons (by kernel_rfl) (by kernel_rfl) (reads_slice Tryz.underlying22 (by kernel_rfl) (by decide) hN (reads_int Tryz.underlying3)) (readsF_last (by kernel_rfl) (by kernel_rfl) (reads_slice Tryz.underlying32 (by kernel_rfl) (by decide) hN (reads_string Tryz.underlying9))))) (hval 0 34 v0 rfl rfl) h0
  refine (law_told Q.ok (Q.lawMouldOnes (a0.1) (w0.1) (a0.2) (w0.2)) hG (argL_cons rep0 argL_nil)).mono fun e W' hpost => ?_
  obtain ⟨he, bel⟩ := hpost
  subst he
  exact ⟨_, rfl, _, _, _, [], _, [], hW', trodAll_mk1 (shut_bool Tryz.underlying4 _), (trodAll_cons_mk (Below.trod laidOut (by kernel_rfl) (of_decide_eq_true (by kernel_rfl)) k0 bel lt0) trodAll_mk0), rfl, bel.frame _, fun h => by cases h⟩
theorem over : Rows.mouldOnesRow.holds Tryz.pinned (OpenSpec.ofChange Rows.mouldOnesSpec) :=
  OpenClaim.holds_of_wide 4 Tryz.f4 rfl rfl rfl rfl rfl rfl rfl ⟨rfl, rfl, rfl, rfl, rfl⟩ rfl rfl rfl rfl rfl (by kernel_rfl) Tryz.func4 (by kernel_rfl)
    (of_decide_eq_true (by kernel_rfl)) (by unfold Func.isWrapper; first | (rw [if_pos (by decide +kernel)]; kernel_rfl) | (rw [if_neg (by decide +kernel)]; exact ⟨rfl, rfl⟩))
    (fun os started H enc _ => lifted os started H enc)
theorem card : Rows.MouldOnesCardSaid :=
  Claim7.holds_tied_plain_at .later [] [.data, .data, .data, .sentinel, .sentinel] true (true, "4ffb9fc7fec763371f209e82badb926f37792b2d344bbb42c47f62643e9187ac") true over (fun _ h => by cases h) (by kernel_rfl) (fun _ h => by cases h) mouldOnes_row_tie rfl ⟨rfl, rfl⟩ (by kernel_rfl) rfl
    (fun f fn hf hfn => by
      obtain rfl : f = 4 := Option.some.inj ((show Tryz.prog.funcNamed Rows.mouldOnesRow.func = some 4 by kernel_rfl).symm.trans hf) |>.symm
      obtain rfl : fn = Tryz.f4 := (Option.some.inj (Tryz.func4.symm.trans hfn)).symm
      exact ⟨by kernel_rfl, fun j t ht => by
        have hm : t ∈ Tryz.f4.params.toList := by simpa using Array.mem_of_getElem? ht
        have hall : (Tryz.f4.params.toList.all fun u => !Tryz.prog.wantsStandIn u) = true := by kernel_rfl
        exact (show Tryz.prog.wantsStandIn t = false by simpa using List.all_eq_true.1 hall t hm)⟩)
    (by kernel_rfl)
#print axioms card
end Go.Proofs.YthcijldahbalcaaGreatDoor.mouldOnes
namespace Go.Proofs.YthcijldahbalcaaGreatDoor
theorem mouldOnes_holds : Rows.MouldOnesCardSaid := mouldOnes.card
end Go.Proofs.YthcijldahbalcaaGreatDoor
end
