/- What the law TypedBytes rests on, part 2. -/
import Derived.Test.YthcijldahbalcaaDoorKTypedBytes0
import Derived.Shelf.Strconv.Itoa0
import Derived.Shelf.Strconv.Itoa1
import Derived.Shelf.LaysM
import Derived.Shelf.Strconv.Itoa2
import Derived.Shelf.Strconv.Itoa3
import Derived.Shelf.Strconv.Itoa4
import Derived.Shelf.Strconv.ParseIntEmpty
import Derived.Shelf.Strconv.Clone
import Derived.Shelf.Strconv.SyntaxError
import Derived.Shelf.LaysC
import Derived.Shelf.Strconv.ToError
import Derived.Shelf.Strconv.Lower
import Derived.Shelf.Strconv.ParseUint10
import Derived.Shelf.Strconv.ParseUint10Empty
import Derived.Shelf.Strconv.ParseUint10Any
import Derived.Shelf.Strconv.ParseInt10
import Derived.Shelf.Strconv.RangeError
import Derived.Shelf.Strconv.ToErrorRange
import Derived.Shelf.Strconv.ParseUintEmpty
import Derived.Shelf.Strconv.ParseUint10b64
import Derived.Shelf.Strconv.ParseUint10b32
import Derived.Shelf.Strconv.ParseUint10b16
import Derived.Shelf.Strconv.ParseUint10b8
import Derived.Shelf.Strconv.ParseUint10At
import Derived.Shelf.Strconv.ParseInt10At64
import Derived.Shelf.Strconv.ParseInt10At32
import Derived.Shelf.Strconv.ParseInt10At16
import Derived.Shelf.Strconv.ParseInt10At8
import Derived.Shelf.Strconv.ParseInt10All
import Derived.Shelf.Strconv.ParseIntPublic10
import Derived.Shelf.Strconv.ErrVarParseInt
import Derived.Shelf.GgClosure.StringsIndexFunc
import Derived.Ground.GgwProg
import Derived.Shelf.GgClosure.StringsIndexFuncTop
import Derived.Shelf.GgClosure.StringsRunes
import Derived.Shelf.Strings.Prefix
import Derived.Shelf.Strings.FuncGrows
import Derived.Shelf.Slices.Turned
import Derived.Shelf.Slices.Reverse
import Derived.Ground.Names2Prog
import Derived.Shelf.Slices.Clone
import Derived.Shelf.Slices.Cells
import Derived.Ground.SlgnProg
import Derived.Shelf.SlicesE.Clone
import Derived.Lib.LaidTab
import Derived.Shelf.Abstract
import Derived.WalkSpells
import Derived.WalkLawsBesides
import Derived.Laws.RangeAny
import Derived.Lib.AtoiErrMem
import Derived.Lib.AppendIntMem
import Derived.Deep.RegionLaw
set_option linter.unusedVariables false
set_option linter.unusedSimpArgs false
section
namespace Go.Proofs
open Go.Shelf
def Tryd.laysM173_ren : Go.Shelf.Ren := ⟨fun | 173 => 76 | 246 => 106 | 283 => 123 | 284 => 124 | 285 => 125 | 286 => 126 | 129 => 143 | 317 => 142 | 318 => 144 | 319 => 145 | 320 => 146 | 337 => 157 | 338 => 158 | n => n, fun | 2 => 2 | 3 => 3 | 9 => 9 | 4 => 4 | 171 => 142 | 0 => 0 | 53 => 143 | 37 => 118 | 5 => 5 | 173 => 146 | 212 => 161 | 51 => 162 | 20 => 20 | 213 => 163 | 46 => 123 | 232 => 177 | 233 => 178 | n => n, fun | 17 => 0 | 18 => 3 | 19 => 4 | n => n⟩
theorem Tryd.laysM173 : Go.Proofs.LaysM.n173 Tryd.prog Tryd.laysM173_ren := {
  mixed := by kernel_rfl
  f129 := Tryd.func143.trans (congrArg some (by kernel_rfl))
  f173 := Tryd.func76.trans (congrArg some (by kernel_rfl))
  f246 := Tryd.func106.trans (congrArg some (by kernel_rfl))
  f283 := Tryd.func123.trans (congrArg some (by kernel_rfl))
  f284 := Tryd.func124.trans (congrArg some (by kernel_rfl))
  f285 := Tryd.func125.trans (congrArg some (by kernel_rfl))
  f286 := Tryd.func126.trans (congrArg some (by kernel_rfl))
  f317 := Tryd.func142.trans (congrArg some (by kernel_rfl))
  f318 := Tryd.func144.trans (congrArg some (by kernel_rfl))
  f319 := Tryd.func145.trans (congrArg some (by kernel_rfl))
  f320 := Tryd.func146.trans (congrArg some (by kernel_rfl))
  f337 := Tryd.func157.trans (congrArg some (by kernel_rfl))
  f338 := Tryd.func158.trans (congrArg some (by kernel_rfl))
  t0 := Tryd.underlying0
  a0 := Tryd.isAgg0
  z0 := Tryd.sizeOf0
  v0 := Tryd.zeroValue0
  t2 := Tryd.underlying2
  a2 := Tryd.isAgg2
  z2 := Tryd.sizeOf2
  v2 := Tryd.zeroValue2
  t3 := Tryd.underlying3
  a3 := Tryd.isAgg3
  z3 := Tryd.sizeOf3
  v3 := Tryd.zeroValue3
  t4 := Tryd.underlying4
  a4 := Tryd.isAgg4
  z4 := Tryd.sizeOf4
  v4 := Tryd.zeroValue4
  t5 := Tryd.underlying5
  a5 := Tryd.isAgg5
  z5 := Tryd.sizeOf5
  v5 := Tryd.zeroValue5
  t9 := Tryd.underlying9
  a9 := Tryd.isAgg9
  z9 := Tryd.sizeOf9
  v9 := Tryd.zeroValue9
  t20 := Tryd.underlying20
  a20 := Tryd.isAgg20
  z20 := Tryd.sizeOf20
  v20 := Tryd.zeroValue20
  t37 := Tryd.underlying118
  a37 := Tryd.isAgg118
  z37 := Tryd.sizeOf118
  v37 := Tryd.zeroValue118
  t46 := Tryd.underlying123
  a46 := Tryd.isAgg123
  z46 := Tryd.sizeOf123
  v46 := Tryd.zeroValue123
  t51 := Tryd.underlying162
  a51 := Tryd.isAgg162
  z51 := Tryd.sizeOf162
  v51 := Tryd.zeroValue162
  t53 := Tryd.underlying143
  a53 := Tryd.isAgg143
  z53 := Tryd.sizeOf143
  v53 := Tryd.zeroValue143
  t171 := Tryd.underlying142
  a171 := Tryd.isAgg142
  z171 := Tryd.sizeOf142
  v171 := Tryd.zeroValue142
  t173 := Tryd.underlying146
  a173 := Tryd.isAgg146
  z173 := Tryd.sizeOf146
  v173 := Tryd.zeroValue146
  t212 := Tryd.underlying161
  a212 := Tryd.isAgg161
  z212 := Tryd.sizeOf161
  v212 := Tryd.zeroValue161
  t213 := Tryd.underlying163
  a213 := Tryd.isAgg163
  z213 := Tryd.sizeOf163
  t232 := Tryd.underlying177
  a232 := Tryd.isAgg177
  z232 := Tryd.sizeOf177
  v232 := Tryd.zeroValue177
  t233 := Tryd.underlying178
  a233 := Tryd.isAgg178
  z233 := Tryd.sizeOf178
  v233 := Tryd.zeroValue178
  g17 := by kernel_rfl
  g18 := by kernel_rfl
  g19 := by kernel_rfl
  i0 := by kernel_rfl
  i2 := by kernel_rfl
  i3 := by kernel_rfl
  i4 := by kernel_rfl
  i5 := by kernel_rfl
  i9 := by kernel_rfl
  i20 := by kernel_rfl
  i37 := by kernel_rfl
  i46 := by kernel_rfl
  i51 := by kernel_rfl
  i53 := by kernel_rfl
  i171 := by kernel_rfl
  i173 := by kernel_rfl
  i212 := by kernel_rfl
  i232 := by kernel_rfl
  i233 := by kernel_rfl
  m17 := by kernel_rfl
  m18 := by kernel_rfl
  m19 := by kernel_rfl }
open Go.RowKit Go.Sort Go.Lib in
theorem Tryd.strconv_FormatInt_10 (n : Int) (h0 : -9223372036854775808 ≤ n) (h1 : n ≤ 9223372036854775807) (w : World) (htab : Lib.TabIs Tryd.prog w "internal/strconv.uint64pow10" .u64 Lib.pow10Tab) :
    Calls Tryd.prog 76 #[.int .i64 n, .int .i64 10] w fun e w' => e = .returned (.string ⟨(Lib.itoa n).toArray⟩) ∧ ∃ k os, w' = grow (w.drewN k) os := Any.strconv_FormatInt_10 Tryd.laysM173 n h0 h1 w htab
def Tryd.laysC174_ren : Go.Shelf.Ren := ⟨fun | 174 => 96 | 247 => 115 | 245 => 116 | 287 => 130 | 279 => 131 | 280 => 132 | 281 => 133 | 282 => 134 | 321 => 147 | 322 => 148 | 316 => 149 | 171 => 151 | 205 => 150 | 243 => 159 | 246 => 106 | 283 => 123 | 284 => 124 | 285 => 125 | 286 => 126 | 129 => 143 | 317 => 142 | 318 => 144 | 319 => 145 | 320 => 146 | 337 => 157 | 338 => 158 | n => n, fun | 9 => 9 | 3 => 3 | 2 => 2 | 75 => 115 | 85 => 116 | 4 => 4 | 167 => 151 | 5 => 5 | 53 => 143 | 175 => 152 | 46 => 123 | 168 => 154 | 37 => 118 | 0 => 0 | 210 => 167 | 21 => 21 | 127 => 172 | 145 => 175 | 143 => 173 | 171 => 142 | 173 => 146 | 212 => 161 | 51 => 162 | 20 => 20 | 213 => 163 | 232 => 177 | 233 => 178 | 80 => 179 | n => n, fun | 15 => 1 | 16 => 2 | 17 => 0 | 18 => 3 | 19 => 4 | n => n⟩
theorem Tryd.laysC174 : Go.Proofs.LaysC.n174 Tryd.prog Tryd.laysC174_ren := {
  mixed := by kernel_rfl
  f129 := Tryd.func143.trans (congrArg some (by kernel_rfl))
  f171 := Tryd.func151.trans (congrArg some (by kernel_rfl))
  f174 := Tryd.func96.trans (congrArg some (by kernel_rfl))
  f205 := Tryd.func150.trans (congrArg some (by kernel_rfl))
  f243 := Tryd.func159.trans (congrArg some (by kernel_rfl))
  f245 := Tryd.func116.trans (congrArg some (by kernel_rfl))
  f246 := Tryd.func106.trans (congrArg some (by kernel_rfl))
  f247 := Tryd.func115.trans (congrArg some (by kernel_rfl))
  f279 := Tryd.func131.trans (congrArg some (by kernel_rfl))
  f280 := Tryd.func132.trans (congrArg some (by kernel_rfl))
  f281 := Tryd.func133.trans (congrArg some (by kernel_rfl))
  f282 := Tryd.func134.trans (congrArg some (by kernel_rfl))
  f283 := Tryd.func123.trans (congrArg some (by kernel_rfl))
  f284 := Tryd.func124.trans (congrArg some (by kernel_rfl))
  f285 := Tryd.func125.trans (congrArg some (by kernel_rfl))
  f286 := Tryd.func126.trans (congrArg some (by kernel_rfl))
  f287 := Tryd.func130.trans (congrArg some (by kernel_rfl))
  f316 := Tryd.func149.trans (congrArg some (by kernel_rfl))
  f317 := Tryd.func142.trans (congrArg some (by kernel_rfl))
  f318 := Tryd.func144.trans (congrArg some (by kernel_rfl))
  f319 := Tryd.func145.trans (congrArg some (by kernel_rfl))
  f320 := Tryd.func146.trans (congrArg some (by kernel_rfl))
  f321 := Tryd.func147.trans (congrArg some (by kernel_rfl))
  f322 := Tryd.func148.trans (congrArg some (by kernel_rfl))
  f337 := Tryd.func157.trans (congrArg some (by kernel_rfl))
  f338 := Tryd.func158.trans (congrArg some (by kernel_rfl))
  t0 := Tryd.underlying0
  a0 := Tryd.isAgg0
  z0 := Tryd.sizeOf0
  v0 := Tryd.zeroValue0
  t2 := Tryd.underlying2
  a2 := Tryd.isAgg2
  z2 := Tryd.sizeOf2
  v2 := Tryd.zeroValue2
  t3 := Tryd.underlying3
  a3 := Tryd.isAgg3
  z3 := Tryd.sizeOf3
  v3 := Tryd.zeroValue3
  t4 := Tryd.underlying4
  a4 := Tryd.isAgg4
  z4 := Tryd.sizeOf4
  v4 := Tryd.zeroValue4
  t5 := Tryd.underlying5
  a5 := Tryd.isAgg5
  z5 := Tryd.sizeOf5
  v5 := Tryd.zeroValue5
  t9 := Tryd.underlying9
  a9 := Tryd.isAgg9
  z9 := Tryd.sizeOf9
  v9 := Tryd.zeroValue9
  t20 := Tryd.underlying20
  a20 := Tryd.isAgg20
  z20 := Tryd.sizeOf20
  v20 := Tryd.zeroValue20
  t21 := Tryd.underlying21
  a21 := Tryd.isAgg21
  z21 := Tryd.sizeOf21
  v21 := Tryd.zeroValue21
  t37 := Tryd.underlying118
  a37 := Tryd.isAgg118
  z37 := Tryd.sizeOf118
  v37 := Tryd.zeroValue118
  t46 := Tryd.underlying123
  a46 := Tryd.isAgg123
  z46 := Tryd.sizeOf123
  v46 := Tryd.zeroValue123
  t51 := Tryd.underlying162
  a51 := Tryd.isAgg162
  z51 := Tryd.sizeOf162
  v51 := Tryd.zeroValue162
  t53 := Tryd.underlying143
  a53 := Tryd.isAgg143
  z53 := Tryd.sizeOf143
  v53 := Tryd.zeroValue143
  t75 := Tryd.underlying115
  a75 := Tryd.isAgg115
  z75 := Tryd.sizeOf115
  v75 := Tryd.zeroValue115
  t85 := Tryd.underlying116
  a85 := Tryd.isAgg116
  z85 := Tryd.sizeOf116
  v85 := Tryd.zeroValue116
  t127 := Tryd.underlying172
  a127 := Tryd.isAgg172
  z127 := Tryd.sizeOf172
  v127 := Tryd.zeroValue172
  t143 := Tryd.underlying173
  a143 := Tryd.isAgg173
  z143 := Tryd.sizeOf173
  v143 := Tryd.zeroValue173
  t145 := Tryd.underlying175
  a145 := Tryd.isAgg175
  z145 := Tryd.sizeOf175
  v145 := Tryd.zeroValue175
  t167 := Tryd.underlying151
  a167 := Tryd.isAgg151
  z167 := Tryd.sizeOf151
  v167 := Tryd.zeroValue151
  t168 := Tryd.underlying154
  a168 := Tryd.isAgg154
  z168 := Tryd.sizeOf154
  v168 := Tryd.zeroValue154
  t171 := Tryd.underlying142
  a171 := Tryd.isAgg142
  z171 := Tryd.sizeOf142
  v171 := Tryd.zeroValue142
  t173 := Tryd.underlying146
  a173 := Tryd.isAgg146
  z173 := Tryd.sizeOf146
  v173 := Tryd.zeroValue146
  t175 := Tryd.underlying152
  a175 := Tryd.isAgg152
  z175 := Tryd.sizeOf152
  v175 := Tryd.zeroValue152
  t210 := Tryd.underlying167
  a210 := Tryd.isAgg167
  z210 := Tryd.sizeOf167
  v210 := Tryd.zeroValue167
  t212 := Tryd.underlying161
  a212 := Tryd.isAgg161
  z212 := Tryd.sizeOf161
  v212 := Tryd.zeroValue161
  t213 := Tryd.underlying163
  a213 := Tryd.isAgg163
  z213 := Tryd.sizeOf163
  t232 := Tryd.underlying177
  a232 := Tryd.isAgg177
  z232 := Tryd.sizeOf177
  v232 := Tryd.zeroValue177
  t233 := Tryd.underlying178
  a233 := Tryd.isAgg178
  z233 := Tryd.sizeOf178
  v233 := Tryd.zeroValue178
  g15 := by kernel_rfl
  g16 := by kernel_rfl
  g17 := by kernel_rfl
  g18 := by kernel_rfl
  g19 := by kernel_rfl
  t80 := Tryd.underlying179
  a80 := Tryd.isAgg179
  z80 := Tryd.sizeOf179
  v80 := Tryd.zeroValue179
  i0 := by kernel_rfl
  i2 := by kernel_rfl
  i3 := by kernel_rfl
  i4 := by kernel_rfl
  i5 := by kernel_rfl
  i9 := by kernel_rfl
  i20 := by kernel_rfl
  i21 := by kernel_rfl
  i37 := by kernel_rfl
  i46 := by kernel_rfl
  i51 := by kernel_rfl
  i53 := by kernel_rfl
  i75 := by kernel_rfl
  i80 := by kernel_rfl
  i85 := by kernel_rfl
  i127 := by kernel_rfl
  i143 := by kernel_rfl
  i145 := by kernel_rfl
  i167 := by kernel_rfl
  i168 := by kernel_rfl
  i171 := by kernel_rfl
  i173 := by kernel_rfl
  i175 := by kernel_rfl
  i210 := by kernel_rfl
  i212 := by kernel_rfl
  i232 := by kernel_rfl
  i233 := by kernel_rfl
  m15 := by kernel_rfl
  m16 := by kernel_rfl
  m17 := by kernel_rfl
  m18 := by kernel_rfl
  m19 := by kernel_rfl
  c0 := by kernel_rfl
  c2 := by kernel_rfl
  c3 := by kernel_rfl
  c4 := by kernel_rfl
  c5 := by kernel_rfl
  c9 := by kernel_rfl
  c20 := by kernel_rfl
  c21 := by kernel_rfl
  c37 := by kernel_rfl
  c46 := by kernel_rfl
  c51 := by kernel_rfl
  c53 := by kernel_rfl
  c75 := by kernel_rfl
  c80 := by kernel_rfl
  c85 := by kernel_rfl
  c127 := by kernel_rfl
  c143 := by kernel_rfl
  c145 := by kernel_rfl
  c167 := by kernel_rfl
  c168 := by kernel_rfl
  c171 := by kernel_rfl
  c173 := by kernel_rfl
  c175 := by kernel_rfl
  c210 := by kernel_rfl
  c212 := by kernel_rfl
  c213 := by kernel_rfl
  c232 := by kernel_rfl
  c233 := by kernel_rfl }
open Go.RowKit in
theorem Tryd.strconv_ParseInt_10_at64_ok (s : ByteArray) (hmax : s.size ≤ 9223372036854775806) (v : Int) (h : Lib.parseIntB 64 s.data.toList = .ok v) (w : World) :
    Calls Tryd.prog 96 #[.string s, .int .i64 10, .int .i64 64] w fun e w' => e = .returned (.tuple #[.int .i64 v, .nilIface]) ∧ (w' = w ∨ ∃ t, w' = Lib.bytesWorld w 5 t) := Any.strconv_ParseInt_10_at64_ok Tryd.laysC174 s hmax v h w
open Go.RowKit in
theorem Tryd.strconv_ParseInt_10_at64_range_var (s : ByteArray) (hlim : s.size ≤ 281474976710656) (h : Lib.parseIntB 64 s.data.toList = .range) (tp : TypeId) (p : Value) (w : World) (hvar : w.var? Tryd.prog "strconv.ErrRange" = some #[.iface tp p]) :
    Calls Tryd.prog 96 #[.string s, .int .i64 10, .int .i64 64] w fun e w' => ∃ N, e = .returned (.tuple #[.int .i64 (Lib.intSat 64 s.data.toList), .iface 154 (.pointer (some ⟨N, 0, none⟩))]) ∧ w.heap.size ≤ N ∧ w'.heap[N]? = some (.cells #[.string ⟨#[80, 97, 114, 115, 101, 73, 110, 116]⟩, .string s, .iface tp p] 167 (0, 0)) ∧ Below w.heap.size w w' := Any.strconv_ParseInt_10_at64_range_var Tryd.laysC174 s hlim h tp p w hvar
def Tryd.laysGw17_ren : Go.Shelf.Ren := ⟨fun | 17 => 94 | 15 => 114 | 20 => 129 | n => n, fun | 9 => 9 | 23 => 113 | 4 => 4 | 3 => 3 | 0 => 0 | 21 => 21 | n => n, fun | n => n⟩
theorem Tryd.laysGw17 : Go.Proofs.LaysGw.n17 Tryd.prog Tryd.laysGw17_ren := {
  mixed := by kernel_rfl
  f15 := Tryd.func114.trans (congrArg some (by kernel_rfl))
  f17 := Tryd.func94.trans (congrArg some (by kernel_rfl))
  f20 := Tryd.func129.trans (congrArg some (by kernel_rfl))
  t0 := Tryd.underlying0
  a0 := Tryd.isAgg0
  z0 := Tryd.sizeOf0
  v0 := Tryd.zeroValue0
  i0 := by kernel_rfl
  t3 := Tryd.underlying3
  a3 := Tryd.isAgg3
  z3 := Tryd.sizeOf3
  v3 := Tryd.zeroValue3
  i3 := by kernel_rfl
  t4 := Tryd.underlying4
  a4 := Tryd.isAgg4
  z4 := Tryd.sizeOf4
  v4 := Tryd.zeroValue4
  i4 := by kernel_rfl
  t9 := Tryd.underlying9
  a9 := Tryd.isAgg9
  z9 := Tryd.sizeOf9
  v9 := Tryd.zeroValue9
  i9 := by kernel_rfl
  t21 := Tryd.underlying21
  a21 := Tryd.isAgg21
  z21 := Tryd.sizeOf21
  v21 := Tryd.zeroValue21
  i21 := by kernel_rfl
  t23 := Tryd.underlying113
  a23 := Tryd.isAgg113
  z23 := Tryd.sizeOf113
  v23 := Tryd.zeroValue113
  i23 := by kernel_rfl }
open Go.RowKit Go.Lib in
theorem Tryd.strings_ContainsFunc (g : Nat) (lb : Array Value) (eg : ∀ args w, (callFunc g args).run Tryd.prog w = .ok (.enter g args) w) (p : Nat → Bool) (s : ByteArray) (w : World) (hp : PredAt Tryd.prog g lb encR p w) :
    Calls Tryd.prog 94 #[.string s, .func (.func g) #[] lb] w fun e w' => e = .returned (.bool (decide (0 ≤ Lib.idxFunc p true s))) ∧ Below w.heap.size w w' := Any.strings_ContainsFunc Tryd.laysGw17 g lb eg p s w hp
def Tryd.lays101_ren : Go.Shelf.Ren := ⟨fun | 101 => 93 | 208 => 113 | 206 => 128 | n => n, fun | 9 => 9 | 4 => 4 | 3 => 3 | n => n, fun | n => n⟩
theorem Tryd.lays101 : Go.Proofs.Lays.n101 Tryd.prog Tryd.lays101_ren := {
  mixed := by kernel_rfl
  f101 := Tryd.func93.trans (congrArg some (by kernel_rfl))
  f206 := Tryd.func128.trans (congrArg some (by kernel_rfl))
  f208 := Tryd.func113.trans (congrArg some (by kernel_rfl))
  t3 := Tryd.underlying3
  a3 := Tryd.isAgg3
  z3 := Tryd.sizeOf3
  v3 := Tryd.zeroValue3
  t4 := Tryd.underlying4
  a4 := Tryd.isAgg4
  z4 := Tryd.sizeOf4
  v4 := Tryd.zeroValue4
  t9 := Tryd.underlying9
  a9 := Tryd.isAgg9
  z9 := Tryd.sizeOf9
  v9 := Tryd.zeroValue9 }
open Go.RowKit Go.Lib in
theorem Tryd.strings_TrimPrefix (s p : ByteArray) (w : World) :
    Calls Tryd.prog 93 #[.string s, .string p] w fun e w' => e = .returned (.string ⟨(Lib.trimPrefix s.data.toList p.data.toList).toArray⟩) ∧ w' = w := Any.strings_TrimPrefix Tryd.lays101 s p w
def Tryd.laysNm215_ren : Go.Shelf.Ren := ⟨fun | 15 => 74 | n => n, fun | 22 => 22 | 3 => 3 | 4 => 4 | n => n, fun | n => n⟩
theorem Tryd.laysNm215 : Go.Proofs.Lays2.n15 Tryd.prog Tryd.laysNm215_ren := {
  mixed := by kernel_rfl
  f15 := Tryd.func74.trans (congrArg some (by kernel_rfl))
  t3 := Tryd.underlying3
  a3 := Tryd.isAgg3
  z3 := Tryd.sizeOf3
  v3 := Tryd.zeroValue3
  t4 := Tryd.underlying4
  a4 := Tryd.isAgg4
  z4 := Tryd.sizeOf4
  v4 := Tryd.zeroValue4
  t22 := Tryd.underlying22
  a22 := Tryd.isAgg22
  z22 := Tryd.sizeOf22
  v22 := Tryd.zeroValue22
  i3 := by kernel_rfl }
open Go.RowKit Go.Lib in
theorem Tryd.slices_Clone_int (b off n c : Nat) (zs : List Int) (w : World) (hz : n ≤ zs.length) (hbig : n * 8 ≤ 140737488355328) (hc : ∀ j, j < zs.length → w.cell? ⟨b, off + j, none⟩ = some (.int .i64 (zs.getD j 0))) :
    Calls Tryd.prog 74 #[.slice (some ⟨b, off, none⟩) n c] w fun e w' => ∃ v', e = .returned v' ∧ w'.ownsRow w.heap.size 3 1 v' n ((zs.take n).map (Value.int .i64)) ∧ v' ≠ .slice none 0 0 ∧ Below w.heap.size w w' := Any.slices_Clone_int Tryd.laysNm215 b off n c zs w hz hbig hc
open Go.RowKit Go.Lib in
theorem Tryd.slices_Clone_int_nil (n c : Nat) (w : World) :
    Calls Tryd.prog 74 #[.slice none n c] w fun e w' => e = .returned (.slice none 0 0) ∧ w' = w := Any.slices_Clone_int_nil Tryd.laysNm215 n c w
open Go.RowKit Go.Lib in
theorem Tryd.slices_Clone_int_zero (a : Addr) (c : Nat) (w : World) :
    Calls Tryd.prog 74 #[.slice (some a) 0 c] w fun e w' => ∃ v', e = .returned v' ∧ w'.ownsRow w.heap.size 3 1 v' 0 [] ∧ v' ≠ .slice none 0 0 ∧ Below w.heap.size w w' := Any.slices_Clone_int_zero Tryd.laysNm215 a c w
end Go.Proofs
end
section
namespace Go.Proofs.YthcijldahbalcaaDoor.P
open Go.RowKit Go.Proofs.YthcijldahbalcaaDoorW.PrintWords Go.Proofs.YthcijldahbalcaaDoorW.PrintLast Go.Proofs.YthcijldahbalcaaDoorW.PrintMore
set_option linter.unusedVariables false
theorem var_below {w W : World} {n : String} {cs : Array Value} (h : w.var? Tryd.prog n = some cs) (hb : Below w.heap.size w W) : W.var? Tryd.prog n = some cs := by
 unfold World.var? at h ⊢
 obtain ⟨g, hg, h⟩ := Option.bind_eq_some_iff.mp h
 rw [hg, Option.bind_some]
 have hlt : g < w.heap.size := by
  apply Decidable.byContradiction
  intro hn
  rw [Array.getElem?_eq_none (Nat.le_of_not_lt hn)] at h
  cases h
 rw [hb.block g hlt]
 exact h
structure Glob (w : World) : Prop where
 tab : Lib.TabIs Tryd.prog w "internal/strconv.uint64pow10" .u64 Lib.pow10Tab
 rng : ∃ tp p, w.var? Tryd.prog "strconv.ErrRange" = some #[.iface tp p]
theorem gG {w W : World} (h : Aside0 (Glob w)) (hb : Below w.heap.size w W) : Glob W := by
 obtain ⟨tp, p, hr⟩ := h.out.rng
 exact ⟨var_below h.out.tab hb, tp, p, var_below hr hb⟩
end Go.Proofs.YthcijldahbalcaaDoor.P
end
section
namespace Go.Proofs.YthcijldahbalcaaDoor.P
open Go.RowKit Go.Shelf Go.Lib Go.Proofs.YthcijldahbalcaaDoorW.PrintWords Go.Proofs.YthcijldahbalcaaDoorW.PrintLast Go.Proofs.YthcijldahbalcaaDoorW.PrintMore
set_option linter.unusedVariables false
set_option linter.unusedSimpArgs false
def strings_TrimPrefix.f (a0 a1 : ByteArray) : Option ByteArray := some ⟨(Lib.trimPrefix a0.data.toList a1.data.toList).toArray⟩
theorem strings_TrimPrefix.calls (a0 a1 r : ByteArray) (w : World) (h : strings_TrimPrefix.f a0 a1 = some r) :
  Calls Tryd.prog 93 #[.string a0, .string a1] w fun e w' => e = .returned (.string r) ∧ Drawn0 w w' := by
 obtain rfl := Option.some.inj h
 refine (Tryd.strings_TrimPrefix a0 a1 w).mono ?_
 rintro e w' ⟨rfl, rfl⟩
 exact ⟨rfl, Drawn0.refl _⟩
def noFig (r : Nat) : Bool := decide (r < 48) || decide (57 < r)
theorem may1 (w : World) : PredAt Tryd.prog 95 #[] encR noFig w := fun W r _ => by
 unfold FnGives
 by_cases h1 : r < 48
 all_goals by_cases h2 : 57 < r
 all_goals
  have z1 : (r : Int) < 48 ↔ r < 48 := by omega
  have z2 : (57 : Int) < (r : Int) ↔ 57 < r := by omega
  go_enter Tryd.func95, Tryd.ntmps95
  go_wp2
  all_goals first | (exfalso; omega) | (go_ret; exact ⟨by simp [noFig, h1, h2], 0, rfl⟩)
def isFig (c : UInt8) : Bool := decide (48 ≤ c.toNat) && decide (c.toNat ≤ 57)
theorem fig_idx (s : ByteArray) : ∀ (f pos : Nat), s.size ≤ pos + f → (0 ≤ Lib.idxFuncFrom noFig true s f pos ↔ ∃ j, ∃ h : j < s.size, pos ≤ j ∧ isFig s[j] = false)
 | 0, pos, hf => by
  simp only [Lib.idxFuncFrom]
  constructor
  ·intro h; omega
  ·rintro ⟨j, hj, hp, _⟩; omega
 | f + 1, pos, hf => by
  unfold Lib.idxFuncFrom
  by_cases hp : pos < s.size
  ·rw [if_pos hp]
   by_cases ha : (s[pos]'hp).toNat < 128
   ·rw [decode_ascii s pos hp ha]
    simp only []
    by_cases hg : noFig (s[pos]'hp).toNat = true
    ·rw [if_pos hg]
     constructor
     ·intro _
      refine ⟨pos, hp, Nat.le_refl _, ?_⟩
      unfold noFig at hg
      unfold isFig
      simp at hg ⊢
      omega
     ·intro _; omega
    ·rw [if_neg hg, fig_idx s f (pos + 1) (by omega)]
     constructor
     ·rintro ⟨j, hj, hle, hh⟩
      exact ⟨j, hj, by omega, hh⟩
     ·rintro ⟨j, hj, hle, hh⟩
      by_cases hjp : j = pos
      ·subst hjp
       unfold noFig at hg
       unfold isFig at hh
       simp at hg hh
       omega
      ·exact ⟨j, hj, by omega, hh⟩
   ·have hd := decode_high s pos hp (by omega)
    rw [if_pos (by unfold noFig; simp; omega)]
    constructor
    ·intro _
     refine ⟨pos, hp, Nat.le_refl _, ?_⟩
     unfold isFig
     simp
     omega
    ·intro _; omega
  ·rw [if_neg hp]
   constructor
   ·intro h; omega
   ·rintro ⟨j, hj, hle, _⟩; omega
def allFig (s : ByteArray) : Bool := s.data.toList.all isFig
theorem contains_nofig (s : ByteArray) : decide (0 ≤ Lib.idxFunc noFig true s) = !allFig s := by
 have h := fig_idx s s.size 0 (by omega)
 have e : (∃ j, ∃ h : j < s.size, 0 ≤ j ∧ isFig s[j] = false) ↔ allFig s = false := by
  unfold allFig
  rw [List.all_eq_false]
  constructor
  ·rintro ⟨j, hj, _, hh⟩
   exact ⟨s[j], by rw [Array.mem_toList_iff]; exact Array.getElem_mem hj, by rw [hh]; decide⟩
  ·rintro ⟨x, hx, hh⟩
   rw [Array.mem_toList_iff] at hx
   obtain ⟨j, hj, rfl⟩ := Array.getElem_of_mem hx
   exact ⟨j, hj, Nat.zero_le _, (Bool.not_eq_true _).mp hh⟩
 unfold Lib.idxFunc
 have h2 := h.trans e
 by_cases ha : allFig s = false
 ·rw [decide_eq_true (h2.2 ha), ha]; rfl
 ·rw [decide_eq_false (fun h3 => ha (h2.1 h3)), (Bool.not_eq_false _).mp ha]; rfl
def ContainsFunc_May.f (a0 : ByteArray) : Option Bool := some (!allFig a0)
theorem ContainsFunc_May.calls (a0 : ByteArray) (r : Bool) (w : World) (h : ContainsFunc_May.f a0 = some r) :
  Calls Tryd.prog 94 #[.string a0, .func (.func 95) #[] #[]] w fun e w' => e = .returned (.bool r) ∧ Below w.heap.size w w' := by
 obtain rfl := Option.some.inj h
 refine (Tryd.strings_ContainsFunc 95 #[] (enters_of Tryd.func95 (by kernel_rfl) rfl) noFig a0 w (may1 w)).mono ?_
 rintro e w' ⟨rfl, hb⟩
 exact ⟨by rw [contains_nofig], hb⟩
end Go.Proofs.YthcijldahbalcaaDoor.P
end
section
namespace Go.Proofs.YthcijldahbalcaaDoor.P
open Go.RowKit Go.Proofs.YthcijldahbalcaaDoorW.PrintWords Go.Proofs.YthcijldahbalcaaDoorW.PrintLast Go.Proofs.YthcijldahbalcaaDoorW.PrintMore
attribute [local go_sem] max2_int min2_int max_two min_two max_three min_three max_four min_four
set_option linter.unusedVariables false
set_option linter.unusedSimpArgs false
def shape_Size_1.f (a0 : Int) : Option (Bool) := some (decide (a0 < 0))
set_option maxHeartbeats 8000000 in
set_option maxRecDepth 100000 in
theorem shape_Size_1.calls (a0 : Int) (r : Bool) (w : World) (h : shape_Size_1.f a0 = some r) :
  Calls Tryd.prog 89 #[.int .i64 a0] w fun e w' => e = .returned (.bool r) ∧ Drawn0 w w' := by
 have H : (some (decide (a0 < 0))) = some r := h
 clear h
 obtain rfl := Option.some.inj H
 go_enter Tryd.func89, Tryd.ntmps89
 go_wp2
 go_ret
 exact ⟨by first | rfl | (simp; done) | (simp [*]; done), by repeat (first | exact Drawn0.refl _ | apply Drawn0.step)⟩
def shape_Size_2.f (a0 : Int) : Option (Bool) := some (decide (a0 > 1099511627776))
set_option maxHeartbeats 8000000 in
set_option maxRecDepth 100000 in
theorem shape_Size_2.calls (a0 : Int) (r : Bool) (w : World) (h : shape_Size_2.f a0 = some r) :
  Calls Tryd.prog 90 #[.int .i64 a0] w fun e w' => e = .returned (.bool r) ∧ Drawn0 w w' := by
 have H : (some (decide (a0 > 1099511627776))) = some r := h
 clear h
 obtain rfl := Option.some.inj H
 go_enter Tryd.func90, Tryd.ntmps90
 go_wp2
 go_ret
 exact ⟨by first | rfl | (simp; done) | (simp [*]; done), by repeat (first | exact Drawn0.refl _ | apply Drawn0.step)⟩
def IndexFunc_Size1.l0 : Nat → List Int → Int → Int → Option (Int)
 | 0, _, _, _ => none
 | k + 1, x0, x7, x8 => if x8 < x7 then (if 0 ≤ x8 then (if x8 < (x0.length : Int) then ((shape_Size_1.f (rd x0 x8)).bind fun t112 => (if t112 = true then (some x8) else (IndexFunc_Size1.l0 k x0 x7 (wrap64 (x8 + 1))))) else (none)) else (none)) else (some (-1))
def IndexFunc_Size1.f (k : Nat) (l0 : List Int)  : Option (Int) := IndexFunc_Size1.l0 k l0 (l0.length : Int) 0
theorem IndexFunc_Size1.mono_l : ∀ k, (∀ y0 y1 y2, LeO (IndexFunc_Size1.l0 k y0 y1 y2) (IndexFunc_Size1.l0 (k + 1) y0 y1 y2))
 | 0 => fun _ _ _ r h => by simp [IndexFunc_Size1.l0] at h
 | k + 1 => by
  have ih0 := IndexFunc_Size1.mono_l k
  ·intro y0 y1 y2
   unfold IndexFunc_Size1.l0
   repeat' first
   | (with_reducible exact ih0 _ _ _)
   | (with_reducible exact LeO.refl _)
   | (with_reducible exact LeO.none _)
   | (with_reducible refine LeO.ite ?_ ?_)
   | (with_reducible refine LeO.bind ?_ (fun _ => ?_))
   | exact ih0 _ _ _
   | exact LeO.none _
   | refine LeO.ite ?_ ?_
   | refine LeO.bind ?_ (fun _ => ?_)
theorem IndexFunc_Size1.mono : ∀ a0 k, LeO (IndexFunc_Size1.f k a0) (IndexFunc_Size1.f (k + 1) a0) := by
 intro a0 k
 have ih0 := IndexFunc_Size1.mono_l k
 unfold IndexFunc_Size1.f
 repeat' first
   | (with_reducible exact ih0 _ _ _)
   | (with_reducible exact LeO.refl _)
   | (with_reducible exact LeO.none _)
   | (with_reducible refine LeO.ite ?_ ?_)
   | (with_reducible refine LeO.bind ?_ (fun _ => ?_))
   | exact ih0 _ _ _
   | exact LeO.none _
   | refine LeO.ite ?_ ?_
   | refine LeO.bind ?_ (fun _ => ?_)
set_option maxHeartbeats 8000000 in
set_option maxRecDepth 100000 in
theorem IndexFunc_Size1.calls (k : Nat) (A0 : Option Addr) (c0 : Nat) (l0 : List Int)  (r : Int) (w : World) (hr0 : Kd.C (Kd.int .i64) w A0 l0.length l0) (hc0 : l0.length ≤ c0) (h : IndexFunc_Size1.f k l0 = some r) :
  Calls Tryd.prog 111 #[.slice A0 l0.length c0, .func (.func 89) #[] #[]] w fun e w' => e = .returned (.int .i64 r) ∧ Drawn0 w w' := by
 have HR0 := Aside0.mk hr0
 have HC0 := Aside0.mk hc0
 clear hr0 hc0
 have H : (IndexFunc_Size1.l0 k l0 (l0.length : Int) 0) = some r := h
 clear h
 have H' := Aside0.mk H
 clear H
 go_enter Tryd.func111, Tryd.ntmps111
 go_wp2
 go_loopg [8] k (fun kq v8 w' => ∃ (x8_1 : Int), v8 = .int .i64 x8_1 ∧ Aside0 (IndexFunc_Size1.l0 kq l0 (l0.length : Int) x8_1 = some r) ∧ Aside0 (kq ≤ k) ∧ Drawn0 w w')
 case atStart => exact ⟨(0), (by first | rfl | (simp; done) | (simp [*]; done)), H', ⟨Nat.le_refl _⟩, by repeat (first | exact Drawn0.refl _ | apply Drawn0.step)⟩
 case round =>
  clear H'
  try clear c1
  try clear p2
  obtain ⟨x8_1, rfl, HA, HK1, ⟨m1, rfl⟩⟩ := hrel
  cases gk with
  | zero => exact absurd HA.out (by simp [IndexFunc_Size1.l0])
  | succ k1 =>
   have H := HA.out
   clear HA
   simp only [IndexFunc_Size1.l0] at H
   by_cases c3 : x8_1 < (l0.length : Int)
   ·rw [if_pos c3] at H
    have c3b0 : decide (x8_1 < (l0.length : Int)) = true := decide_eq_true c3
    clear c3
    by_cases c4 : 0 ≤ x8_1
    ·rw [if_pos c4] at H
     have c4b0 : decide (0 ≤ x8_1) = true := decide_eq_true c4
     clear c4
     by_cases c5 : x8_1 < (l0.length : Int)
     ·rw [if_pos c5] at H
      have c5b0 : decide (x8_1 < (l0.length : Int)) = true := decide_eq_true c5
      clear c5
      replace H := Option.bind_eq_some_iff.mp H
      obtain ⟨t112, A60, H⟩ := H
      replace H : (if t112 = true then (some x8_1) else (IndexFunc_Size1.l0 k1 l0 (l0.length : Int) (wrap64 (x8_1 + 1)))) = some r := H
      have A6 := Aside0.mk A60
      clear A60
      by_cases c7 : t112 = true
      ·subst c7
       have H1 : (some x8_1) = some r := by rw [if_pos rfl] at H; exact H
       clear H
       have H := H1
       clear H1
       obtain rfl := Option.some.inj H
       have p111 : 0 ≤ (x8_1 : Int) := of_decide_eq_true (by first | (with_reducible assumption) | assumption)
       have q111 : x8_1 < (l0.length : Int) := of_decide_eq_true (by first | (with_reducible assumption) | assumption)
       obtain ⟨ad111, e111, hx111_0⟩ := Kd.at_int HR0.out x8_1 p111 q111
       cases e111
       replace p111 := eq_true p111
       replace q111 := eq_true q111
       go_wp2_with (first | ((with_reducible refine gate_calleeT rfl ?_); refine goesLT_ (some 16) rfl rfl Tryd.func89 (by kernel_rfl) rfl #[.int .i64 (rd l0 x8_1)] rfl (by (try simp only [List.map_toArray, List.map_cons, List.map_nil]); first | done | rfl | (simp only [List.length_drop, List.length_take]; rfl)) ?_; (with_reducible refine (shape_Size_1.calls (rd l0 x8_1) true _ A6.out).mono ?_); rintro e w' ⟨rfl, ⟨nd, rfl⟩⟩; refine ⟨_, rfl, ?_⟩))
       go_ret
       exact ⟨by first | rfl | (simp; done) | (simp [*]; done), by repeat (first | exact Drawn0.refl _ | apply Drawn0.step)⟩
      ·replace c7 := Bool.eq_false_iff.mpr c7
       subst c7
       have H1 : (IndexFunc_Size1.l0 k1 l0 (l0.length : Int) (wrap64 (x8_1 + 1))) = some r := by rw [if_neg (show ¬ (false = true) by decide)] at H; exact H
       clear H
       have H := H1
       clear H1
       have H' := Aside0.mk H
       clear H
       have p111 : 0 ≤ (x8_1 : Int) := of_decide_eq_true (by first | (with_reducible assumption) | assumption)
       have q111 : x8_1 < (l0.length : Int) := of_decide_eq_true (by first | (with_reducible assumption) | assumption)
       obtain ⟨ad111, e111, hx111_0⟩ := Kd.at_int HR0.out x8_1 p111 q111
       cases e111
       replace p111 := eq_true p111
       replace q111 := eq_true q111
       go_wp2_with (first | ((with_reducible refine gate_calleeT rfl ?_); refine goesLT_ (some 16) rfl rfl Tryd.func89 (by kernel_rfl) rfl #[.int .i64 (rd l0 x8_1)] rfl (by (try simp only [List.map_toArray, List.map_cons, List.map_nil]); first | done | rfl | (simp only [List.length_drop, List.length_take]; rfl)) ?_; (with_reducible refine (shape_Size_1.calls (rd l0 x8_1) false _ A6.out).mono ?_); rintro e w' ⟨rfl, ⟨nd, rfl⟩⟩; refine ⟨_, rfl, ?_⟩))
       go_roundg k1
       case measure => have := HK1.out; omega
       case rel => exact ⟨(wrap64 (x8_1 + 1)), (by first | rfl | (simp; done) | (simp [*]; done)), H', ⟨by have := HK1.out; omega⟩, by repeat (first | exact Drawn0.refl _ | apply Drawn0.step)⟩
     ·rw [if_neg c5] at H
      exact absurd H (by simp)
    ·rw [if_neg c4] at H
     exact absurd H (by simp)
   ·rw [if_neg c3] at H
    have c3b0 : decide (x8_1 < (l0.length : Int)) = false := decide_eq_false c3
    clear c3
    obtain rfl := Option.some.inj H
    go_wp2
    go_ret
    exact ⟨by first | rfl | (simp; done) | (simp [*]; done), by repeat (first | exact Drawn0.refl _ | apply Drawn0.step)⟩
def ContainsFunc_Size1.f (k : Nat) (l0 : List Int)  : Option (Bool) := (IndexFunc_Size1.f k l0).bind fun t113 => (some (decide (t113 ≥ 0)))
theorem ContainsFunc_Size1.mono : ∀ a0 k, LeO (ContainsFunc_Size1.f k a0) (ContainsFunc_Size1.f (k + 1) a0) := by
 intro a0 k
 unfold ContainsFunc_Size1.f
 repeat' first
   | (with_reducible exact IndexFunc_Size1.mono _ _)
   | (with_reducible exact LeO.refl _)
   | (with_reducible exact LeO.none _)
   | (with_reducible refine LeO.ite ?_ ?_)
   | (with_reducible refine LeO.bind ?_ (fun _ => ?_))
   | exact IndexFunc_Size1.mono _ _
   | exact LeO.none _
   | refine LeO.ite ?_ ?_
   | refine LeO.bind ?_ (fun _ => ?_)
set_option maxHeartbeats 8000000 in
set_option maxRecDepth 100000 in
theorem ContainsFunc_Size1.calls (k : Nat) (A0 : Option Addr) (c0 : Nat) (l0 : List Int)  (r : Bool) (w : World) (hr0 : Kd.C (Kd.int .i64) w A0 l0.length l0) (hc0 : l0.length ≤ c0) (h : ContainsFunc_Size1.f k l0 = some r) :
  Calls Tryd.prog 88 #[.slice A0 l0.length c0, .func (.func 89) #[] #[]] w fun e w' => e = .returned (.bool r) ∧ Drawn0 w w' := by
 have HR0 := Aside0.mk hr0
 have HC0 := Aside0.mk hc0
 clear hr0 hc0
 have H : ((IndexFunc_Size1.f k l0).bind fun t113 => (some (decide (t113 ≥ 0)))) = some r := h
 clear h
 replace H := Option.bind_eq_some_iff.mp H
 obtain ⟨t113, A30, H⟩ := H
 replace H : (some (decide (t113 ≥ 0))) = some r := H
 have A3 := Aside0.mk A30
 clear A30
 obtain rfl := Option.some.inj H
 go_enter Tryd.func88, Tryd.ntmps88
 go_wp2_with (first | ((with_reducible refine gate_callee (f := 111) rfl ?_); refine goesL_ (some 7) rfl rfl Tryd.func111 (by kernel_rfl) rfl #[.slice A0 l0.length c0, .func (.func 89) #[] #[]] rfl (by (try simp only [List.map_toArray, List.map_cons, List.map_nil]); first | done | rfl | (simp only [List.length_drop, List.length_take]; rfl)) ?_; (with_reducible refine (IndexFunc_Size1.calls k _ _ l0  t113 _ ?side1 ?side2 A3.out).mono ?_); (case side1 => repeat (first | exact HR0.out | (with_reducible refine Kd.C_alloc ?_ _) | (with_reducible refine Kd.C_drewN ?_ _) | (with_reducible refine Kd.C_drew ?_))); (case side2 => exact HC0.out); rintro e w' ⟨rfl, ⟨nd, rfl⟩⟩; refine ⟨_, rfl, ?_⟩))
 go_ret
 exact ⟨by first | rfl | (simp; done) | (simp [*]; done), by repeat (first | exact Drawn0.refl _ | apply Drawn0.step)⟩
def IndexFunc_Size2.l0 : Nat → List Int → Int → Int → Option (Int)
 | 0, _, _, _ => none
 | k + 1, x0, x7, x8 => if x8 < x7 then (if 0 ≤ x8 then (if x8 < (x0.length : Int) then ((shape_Size_2.f (rd x0 x8)).bind fun t112 => (if t112 = true then (some x8) else (IndexFunc_Size2.l0 k x0 x7 (wrap64 (x8 + 1))))) else (none)) else (none)) else (some (-1))
def IndexFunc_Size2.f (k : Nat) (l0 : List Int)  : Option (Int) := IndexFunc_Size2.l0 k l0 (l0.length : Int) 0
theorem IndexFunc_Size2.mono_l : ∀ k, (∀ y0 y1 y2, LeO (IndexFunc_Size2.l0 k y0 y1 y2) (IndexFunc_Size2.l0 (k + 1) y0 y1 y2))
 | 0 => fun _ _ _ r h => by simp [IndexFunc_Size2.l0] at h
 | k + 1 => by
  have ih0 := IndexFunc_Size2.mono_l k
  ·intro y0 y1 y2
   unfold IndexFunc_Size2.l0
   repeat' first
   | (with_reducible exact ih0 _ _ _)
   | (with_reducible exact LeO.refl _)
   | (with_reducible exact LeO.none _)
   | (with_reducible refine LeO.ite ?_ ?_)
   | (with_reducible refine LeO.bind ?_ (fun _ => ?_))
   | exact ih0 _ _ _
   | exact LeO.none _
   | refine LeO.ite ?_ ?_
   | refine LeO.bind ?_ (fun _ => ?_)
theorem IndexFunc_Size2.mono : ∀ a0 k, LeO (IndexFunc_Size2.f k a0) (IndexFunc_Size2.f (k + 1) a0) := by
 intro a0 k
 have ih0 := IndexFunc_Size2.mono_l k
 unfold IndexFunc_Size2.f
 repeat' first
   | (with_reducible exact ih0 _ _ _)
   | (with_reducible exact LeO.refl _)
   | (with_reducible exact LeO.none _)
   | (with_reducible refine LeO.ite ?_ ?_)
   | (with_reducible refine LeO.bind ?_ (fun _ => ?_))
   | exact ih0 _ _ _
   | exact LeO.none _
   | refine LeO.ite ?_ ?_
   | refine LeO.bind ?_ (fun _ => ?_)
set_option maxHeartbeats 8000000 in
set_option maxRecDepth 100000 in
theorem IndexFunc_Size2.calls (k : Nat) (A0 : Option Addr) (c0 : Nat) (l0 : List Int)  (r : Int) (w : World) (hr0 : Kd.C (Kd.int .i64) w A0 l0.length l0) (hc0 : l0.length ≤ c0) (h : IndexFunc_Size2.f k l0 = some r) :
  Calls Tryd.prog 111 #[.slice A0 l0.length c0, .func (.func 90) #[] #[]] w fun e w' => e = .returned (.int .i64 r) ∧ Drawn0 w w' := by
 have HR0 := Aside0.mk hr0
 have HC0 := Aside0.mk hc0
 clear hr0 hc0
 have H : (IndexFunc_Size2.l0 k l0 (l0.length : Int) 0) = some r := h
 clear h
 have H' := Aside0.mk H
 clear H
 go_enter Tryd.func111, Tryd.ntmps111
 go_wp2
 go_loopg [8] k (fun kq v8 w' => ∃ (x8_1 : Int), v8 = .int .i64 x8_1 ∧ Aside0 (IndexFunc_Size2.l0 kq l0 (l0.length : Int) x8_1 = some r) ∧ Aside0 (kq ≤ k) ∧ Drawn0 w w')
 case atStart => exact ⟨(0), (by first | rfl | (simp; done) | (simp [*]; done)), H', ⟨Nat.le_refl _⟩, by repeat (first | exact Drawn0.refl _ | apply Drawn0.step)⟩
 case round =>
  clear H'
  try clear c1
  try clear p2
  obtain ⟨x8_1, rfl, HA, HK1, ⟨m1, rfl⟩⟩ := hrel
  cases gk with
  | zero => exact absurd HA.out (by simp [IndexFunc_Size2.l0])
  | succ k1 =>
   have H := HA.out
   clear HA
   simp only [IndexFunc_Size2.l0] at H
   by_cases c3 : x8_1 < (l0.length : Int)
   ·rw [if_pos c3] at H
    have c3b0 : decide (x8_1 < (l0.length : Int)) = true := decide_eq_true c3
    clear c3
    by_cases c4 : 0 ≤ x8_1
    ·rw [if_pos c4] at H
     have c4b0 : decide (0 ≤ x8_1) = true := decide_eq_true c4
     clear c4
     by_cases c5 : x8_1 < (l0.length : Int)
     ·rw [if_pos c5] at H
      have c5b0 : decide (x8_1 < (l0.length : Int)) = true := decide_eq_true c5
      clear c5
      replace H := Option.bind_eq_some_iff.mp H
      obtain ⟨t112, A60, H⟩ := H
      replace H : (if t112 = true then (some x8_1) else (IndexFunc_Size2.l0 k1 l0 (l0.length : Int) (wrap64 (x8_1 + 1)))) = some r := H
      have A6 := Aside0.mk A60
      clear A60
      by_cases c7 : t112 = true
      ·subst c7
       have H1 : (some x8_1) = some r := by rw [if_pos rfl] at H; exact H
       clear H
       have H := H1
       clear H1
       obtain rfl := Option.some.inj H
       have p111 : 0 ≤ (x8_1 : Int) := of_decide_eq_true (by first | (with_reducible assumption) | assumption)
       have q111 : x8_1 < (l0.length : Int) := of_decide_eq_true (by first | (with_reducible assumption) | assumption)
       obtain ⟨ad111, e111, hx111_0⟩ := Kd.at_int HR0.out x8_1 p111 q111
       cases e111
       replace p111 := eq_true p111
       replace q111 := eq_true q111
       go_wp2_with (first | ((with_reducible refine gate_calleeT rfl ?_); refine goesLT_ (some 16) rfl rfl Tryd.func90 (by kernel_rfl) rfl #[.int .i64 (rd l0 x8_1)] rfl (by (try simp only [List.map_toArray, List.map_cons, List.map_nil]); first | done | rfl | (simp only [List.length_drop, List.length_take]; rfl)) ?_; (with_reducible refine (shape_Size_2.calls (rd l0 x8_1) true _ A6.out).mono ?_); rintro e w' ⟨rfl, ⟨nd, rfl⟩⟩; refine ⟨_, rfl, ?_⟩))
       go_ret
       exact ⟨by first | rfl | (simp; done) | (simp [*]; done), by repeat (first | exact Drawn0.refl _ | apply Drawn0.step)⟩
      ·replace c7 := Bool.eq_false_iff.mpr c7
       subst c7
       have H1 : (IndexFunc_Size2.l0 k1 l0 (l0.length : Int) (wrap64 (x8_1 + 1))) = some r := by rw [if_neg (show ¬ (false = true) by decide)] at H; exact H
       clear H
       have H := H1
       clear H1
       have H' := Aside0.mk H
       clear H
       have p111 : 0 ≤ (x8_1 : Int) := of_decide_eq_true (by first | (with_reducible assumption) | assumption)
       have q111 : x8_1 < (l0.length : Int) := of_decide_eq_true (by first | (with_reducible assumption) | assumption)
       obtain ⟨ad111, e111, hx111_0⟩ := Kd.at_int HR0.out x8_1 p111 q111
       cases e111
       replace p111 := eq_true p111
       replace q111 := eq_true q111
       go_wp2_with (first | ((with_reducible refine gate_calleeT rfl ?_); refine goesLT_ (some 16) rfl rfl Tryd.func90 (by kernel_rfl) rfl #[.int .i64 (rd l0 x8_1)] rfl (by (try simp only [List.map_toArray, List.map_cons, List.map_nil]); first | done | rfl | (simp only [List.length_drop, List.length_take]; rfl)) ?_; (with_reducible refine (shape_Size_2.calls (rd l0 x8_1) false _ A6.out).mono ?_); rintro e w' ⟨rfl, ⟨nd, rfl⟩⟩; refine ⟨_, rfl, ?_⟩))
       go_roundg k1
       case measure => have := HK1.out; omega
       case rel => exact ⟨(wrap64 (x8_1 + 1)), (by first | rfl | (simp; done) | (simp [*]; done)), H', ⟨by have := HK1.out; omega⟩, by repeat (first | exact Drawn0.refl _ | apply Drawn0.step)⟩
     ·rw [if_neg c5] at H
      exact absurd H (by simp)
    ·rw [if_neg c4] at H
     exact absurd H (by simp)
   ·rw [if_neg c3] at H
    have c3b0 : decide (x8_1 < (l0.length : Int)) = false := decide_eq_false c3
    clear c3
    obtain rfl := Option.some.inj H
    go_wp2
    go_ret
    exact ⟨by first | rfl | (simp; done) | (simp [*]; done), by repeat (first | exact Drawn0.refl _ | apply Drawn0.step)⟩
def ContainsFunc_Size2.f (k : Nat) (l0 : List Int)  : Option (Bool) := (IndexFunc_Size2.f k l0).bind fun t113 => (some (decide (t113 ≥ 0)))
theorem ContainsFunc_Size2.mono : ∀ a0 k, LeO (ContainsFunc_Size2.f k a0) (ContainsFunc_Size2.f (k + 1) a0) := by
 intro a0 k
 unfold ContainsFunc_Size2.f
 repeat' first
   | (with_reducible exact IndexFunc_Size2.mono _ _)
   | (with_reducible exact LeO.refl _)
   | (with_reducible exact LeO.none _)
   | (with_reducible refine LeO.ite ?_ ?_)
   | (with_reducible refine LeO.bind ?_ (fun _ => ?_))
   | exact IndexFunc_Size2.mono _ _
   | exact LeO.none _
   | refine LeO.ite ?_ ?_
   | refine LeO.bind ?_ (fun _ => ?_)
set_option maxHeartbeats 8000000 in
set_option maxRecDepth 100000 in
theorem ContainsFunc_Size2.calls (k : Nat) (A0 : Option Addr) (c0 : Nat) (l0 : List Int)  (r : Bool) (w : World) (hr0 : Kd.C (Kd.int .i64) w A0 l0.length l0) (hc0 : l0.length ≤ c0) (h : ContainsFunc_Size2.f k l0 = some r) :
  Calls Tryd.prog 88 #[.slice A0 l0.length c0, .func (.func 90) #[] #[]] w fun e w' => e = .returned (.bool r) ∧ Drawn0 w w' := by
 have HR0 := Aside0.mk hr0
 have HC0 := Aside0.mk hc0
 clear hr0 hc0
 have H : ((IndexFunc_Size2.f k l0).bind fun t113 => (some (decide (t113 ≥ 0)))) = some r := h
 clear h
 replace H := Option.bind_eq_some_iff.mp H
 obtain ⟨t113, A30, H⟩ := H
 replace H : (some (decide (t113 ≥ 0))) = some r := H
 have A3 := Aside0.mk A30
 clear A30
 obtain rfl := Option.some.inj H
 go_enter Tryd.func88, Tryd.ntmps88
 go_wp2_with (first | ((with_reducible refine gate_callee (f := 111) rfl ?_); refine goesL_ (some 7) rfl rfl Tryd.func111 (by kernel_rfl) rfl #[.slice A0 l0.length c0, .func (.func 90) #[] #[]] rfl (by (try simp only [List.map_toArray, List.map_cons, List.map_nil]); first | done | rfl | (simp only [List.length_drop, List.length_take]; rfl)) ?_; (with_reducible refine (IndexFunc_Size2.calls k _ _ l0  t113 _ ?side1 ?side2 A3.out).mono ?_); (case side1 => repeat (first | exact HR0.out | (with_reducible refine Kd.C_alloc ?_ _) | (with_reducible refine Kd.C_drewN ?_ _) | (with_reducible refine Kd.C_drew ?_))); (case side2 => exact HC0.out); rintro e w' ⟨rfl, ⟨nd, rfl⟩⟩; refine ⟨_, rfl, ?_⟩))
 go_ret
 exact ⟨by first | rfl | (simp; done) | (simp [*]; done), by repeat (first | exact Drawn0.refl _ | apply Drawn0.step)⟩
end Go.Proofs.YthcijldahbalcaaDoor.P
end
section
namespace Go.Proofs.YthcijldahbalcaaDoor.P
open Go.RowKit Go.Proofs.YthcijldahbalcaaDoorW.PrintWords Go.Proofs.YthcijldahbalcaaDoorW.PrintLast Go.Proofs.YthcijldahbalcaaDoorW.PrintMore
set_option linter.unusedVariables false
theorem addr_none {w : World} {bk o : Nat} {sp : Option Nat} {v : Value} (h : w.cell? ((⟨bk, o, sp⟩ : Addr).add 0) = some v) : sp = none := by
 cases sp with
 | none => rfl
 | some n =>
  exfalso
  unfold World.cell? Addr.add at h
  simp at h
  split at h <;> simp at h
theorem C_cells {α : Type} {enc : α → Value} {h1 : ∀ x, (enc x).oneCell' = true} {w : World} {A : Option Addr} {l : List α} (d : α) (h : Kd.C (Kd.scalar enc h1) w A l.length l) (h0 : 0 < l.length) :
  ∃ b off, A = some ⟨b, off, none⟩ ∧ ∀ j, j < l.length → w.cell? ⟨b, off + j, none⟩ = some (enc (l.getD j d)) := by
 obtain ⟨_, _, h⟩ := h
 obtain ⟨ad, rfl, hc⟩ := h h0
 have hcell : ∀ j, j < l.length → w.cell? (ad.add j) = some (enc (l.getD j d)) := by
  intro j hj
  obtain ⟨c, hl, hr, hu⟩ := hc j l[j] (List.getElem?_eq_getElem hj)
  have hr : c = [enc l[j]] := hr
  have := hu 0 (enc l[j]) (by rw [hr]; rfl)
  rw [List.getD_eq_getElem?_getD, List.getElem?_eq_getElem hj]
  simpa [Kd.scalar] using this
 obtain ⟨b, off, sp⟩ := ad
 obtain rfl := addr_none (hcell 0 h0)
 exact ⟨b, off, rfl, fun j hj => by
  have h2 := hcell j hj
  cases j with
  | zero => simpa [Addr.add] using h2
  | succ j => simpa [Addr.add] using h2⟩
theorem C_none {α : Type} {enc : α → Value} {h1 : ∀ x, (enc x).oneCell' = true} {w : World} {l : List α} (h : Kd.C (Kd.scalar enc h1) w none l.length l) : l = [] := by
 obtain ⟨_, _, h⟩ := h
 cases l with
 | nil => rfl
 | cons x l =>
  obtain ⟨ad, e, _⟩ := h (by simp)
  cases e
def slices_Clone_int_int.f (l0 : List Int) : Option (List Int) := if l0.length ≤ 17592186044416 then some l0 else none
theorem slices_Clone_int_int.calls (A0 : Option Addr) (c0 : Nat) (l0 : List Int) (r : List Int) (w : World) (hr0 : Kd.C (Kd.int .i64) w A0 l0.length l0) (hc0 : l0.length ≤ c0) (h : slices_Clone_int_int.f l0 = some r) :
  Calls Tryd.prog 74 #[.slice A0 l0.length c0] w fun e w' => ∃ v0_ : Value, e = .returned (v0_) ∧ Kd.R (Kd.int .i64) 3 w' w.heap.size (fun _ => True) v0_ r ∧ Below w.heap.size w w' := by
 unfold slices_Clone_int_int.f at h
 by_cases hl : l0.length ≤ 17592186044416
 ·rw [if_pos hl] at h
  obtain rfl := Option.some.inj h
  cases A0 with
  | none =>
   obtain rfl := C_none hr0
   refine (Tryd.slices_Clone_int_nil _ _ w).mono ?_
   rintro e w' ⟨rfl, rfl⟩
   exact ⟨_, rfl, Kd.R_nil _ _ _ _ _, Below.refl _ _⟩
  | some a =>
   by_cases h0 : l0 = []
   ·subst h0
    refine (Tryd.slices_Clone_int_zero a _ w).mono ?_
    rintro e w' ⟨v', rfl, ho, _, hb⟩
    exact ⟨_, rfl, Kd.R_of_own ho (fun _ _ => trivial), hb⟩
   ·have hpos : 0 < l0.length := List.length_pos_iff.2 h0
    obtain ⟨b, off, e, hc⟩ := C_cells 0 hr0 hpos
    injection e with e
    subst e
    refine (Tryd.slices_Clone_int b off l0.length _ l0 w (Nat.le_refl _) (by omega) hc).mono ?_
    rintro e w' ⟨v', rfl, ho, _, hb⟩
    rw [List.take_length] at ho
    exact ⟨_, rfl, Kd.R_of_own ho (fun _ _ => trivial), hb⟩
 ·rw [if_neg hl] at h; cases h
end Go.Proofs.YthcijldahbalcaaDoor.P
end
section
namespace Go.Proofs.YthcijldahbalcaaDoor.P
open Go.RowKit Go.Proofs.YthcijldahbalcaaDoorW.PrintWords Go.Proofs.YthcijldahbalcaaDoorW.PrintLast Go.Proofs.YthcijldahbalcaaDoorW.PrintMore
attribute [local go_sem] max2_int min2_int max_two min_two max_three min_three max_four min_four   
set_option linter.unusedVariables false
set_option linter.unusedSimpArgs false
def num_May.f (a0 : ByteArray) : Option (Bool) := (strings_TrimPrefix.f a0 (⟨#[45]⟩ : ByteArray)).bind fun t101 => (if (t101.size : Int) < 1 then (some false) else (if (t101.size : Int) > 100 then (some false) else (if 0 < (t101.size : Int) then (if (bt t101 0) = 48 then (if a0.toList = ([48] : List UInt8) then ((ContainsFunc_May.f t101).bind fun t102 => (some (!t102))) else (some false)) else ((ContainsFunc_May.f t101).bind fun t103 => (some (!t103)))) else (none))))
set_option maxHeartbeats 8000000 in
set_option maxRecDepth 100000 in
theorem num_May.calls (a0 : ByteArray) (r : Bool) (w : World) (h : num_May.f a0 = some r) :
  Calls Tryd.prog 59 #[.string a0] w fun e w' => e = .returned (.bool r) ∧ Below w.heap.size w w' := by
 have HB := am (Below.refl w.heap.size w)
 unfold num_May.f at h
 have H := h
 clear h
 obtain ⟨t101, A2, H⟩ := bO H
 try dsimp only at H
 by_cases c3 : (t101.size : Int) < 1
 ·rw [if_pos c3] at H
  have c3b0 : decide ((t101.size : Int) < 1) = true := decide_eq_true c3
  have c3b1 : decide (t101.size < 1) = true := decide_eq_true (by omega)
  clear c3
  obtain rfl := Option.some.inj H
  go_enter Tryd.func59, Tryd.ntmps59
  go_wp2_with ((with_reducible refine gC 93 rfl ?_); refine goesL_ (some 5) rfl rfl Tryd.func93 (by kernel_rfl) rfl #[.string a0, .string (⟨#[45]⟩ : ByteArray)] rfl yA ?_; (with_reducible refine (strings_TrimPrefix.calls _ _ _ _ A2.out).mono ?_); rintro e w' ⟨rfl, ⟨nd, rfl⟩⟩; refine ⟨_, rfl, ?_⟩)
  go_ret
  exact ⟨yE, (kL HB)⟩
 ·rw [if_neg c3] at H
  have c3b0 : decide ((t101.size : Int) < 1) = false := decide_eq_false c3
  have c3b1 : decide (t101.size < 1) = false := decide_eq_false (by omega)
  clear c3
  by_cases c4 : (t101.size : Int) > 100
  ·rw [if_pos c4] at H
   have c4b0 : decide (100 < (t101.size : Int)) = true := decide_eq_true c4
   have c4b1 : decide (100 < t101.size) = true := decide_eq_true (by omega)
   clear c4
   obtain rfl := Option.some.inj H
   go_enter Tryd.func59, Tryd.ntmps59
   go_wp2_with ((with_reducible refine gC 93 rfl ?_); refine goesL_ (some 5) rfl rfl Tryd.func93 (by kernel_rfl) rfl #[.string a0, .string (⟨#[45]⟩ : ByteArray)] rfl yA ?_; (with_reducible refine (strings_TrimPrefix.calls _ _ _ _ A2.out).mono ?_); rintro e w' ⟨rfl, ⟨nd, rfl⟩⟩; refine ⟨_, rfl, ?_⟩)
   go_ret
   exact ⟨yE, (kL HB)⟩
  ·rw [if_neg c4] at H
   have c4b0 : decide (100 < (t101.size : Int)) = false := decide_eq_false c4
   have c4b1 : decide (100 < t101.size) = false := decide_eq_false (by omega)
   clear c4
   by_cases c5 : 0 < (t101.size : Int)
   ·rw [if_pos c5] at H
    have c5b0 : decide (0 < (t101.size : Int)) = true := decide_eq_true c5
    have c5b1 : decide (0 < t101.size) = true := decide_eq_true (by omega)
    clear c5
    by_cases c7 : (bt t101 0) = 48
    ·rw [if_pos c7] at H
     have c7b0 := eT c7
     have c7b1 := nF c7
     clear c7
     by_cases c8 : a0.toList = ([48] : List UInt8)
     ·rw [if_pos c8] at H
      have c8b0 := eT c8
      have c8b1 := nF c8
      clear c8
      obtain ⟨t102, A9, H⟩ := bO H
      try dsimp only at H
      obtain rfl := Option.some.inj H
      go_enter Tryd.func59, Tryd.ntmps59
      go_wp2_with (first | ((with_reducible refine gC 93 rfl ?_); refine goesL_ (some 5) rfl rfl Tryd.func93 (by kernel_rfl) rfl #[.string a0, .string (⟨#[45]⟩ : ByteArray)] rfl yA ?_; (with_reducible refine (strings_TrimPrefix.calls _ _ _ _ A2.out).mono ?_); rintro e w' ⟨rfl, ⟨nd, rfl⟩⟩; refine ⟨_, rfl, ?_⟩; have p6 : 0 ≤ (0 : Int) := (by omega); have q6 : 0 < t101.size := (by have : (0 : Int) < (t101.size : Int) := of_decide_eq_true yY; omega); have hx6 : ∀ h : 0 < t101.size, ((t101[0]'h).toNat : Int) = bt t101 0 := bt_at t101 0; clear p6; have qi6 : (0 < (t101.size : Int)) = True := eq_true (of_decide_eq_true yY); replace q6 := eq_true q6) | ((with_reducible refine gC 94 rfl ?_); refine goesL_ (some 24) rfl rfl Tryd.func94 (by kernel_rfl) rfl #[.string t101, .func (.func 95) #[] #[]] rfl yA ?_; (with_reducible refine (ContainsFunc_May.calls _ _ _ A9.out).mono ?_); rintro e w10 ⟨rfl, hb⟩; refine ⟨_, rfl, ?_⟩; replace HB := am (below_step (kL HB) hb)))
      go_ret
      exact ⟨yE, (kL HB)⟩
     ·rw [if_neg c8] at H
      have c8b0 := eF c8
      have c8b1 := nT c8
      obtain rfl := Option.some.inj H
      go_enter Tryd.func59, Tryd.ntmps59
      go_wp2_with ((with_reducible refine gC 93 rfl ?_); refine goesL_ (some 5) rfl rfl Tryd.func93 (by kernel_rfl) rfl #[.string a0, .string (⟨#[45]⟩ : ByteArray)] rfl yA ?_; (with_reducible refine (strings_TrimPrefix.calls _ _ _ _ A2.out).mono ?_); rintro e w' ⟨rfl, ⟨nd, rfl⟩⟩; refine ⟨_, rfl, ?_⟩; have p6 : 0 ≤ (0 : Int) := (by omega); have q6 : 0 < t101.size := (by have : (0 : Int) < (t101.size : Int) := of_decide_eq_true yY; omega); have hx6 : ∀ h : 0 < t101.size, ((t101[0]'h).toNat : Int) = bt t101 0 := bt_at t101 0; clear p6; have qi6 : (0 < (t101.size : Int)) = True := eq_true (of_decide_eq_true yY); replace q6 := eq_true q6)
      go_ret
      exact ⟨yE, (kL HB)⟩
    ·rw [if_neg c7] at H
     have c7b0 := eF c7
     have c7b1 := nT c7
     obtain ⟨t103, A11, H⟩ := bO H
     try dsimp only at H
     obtain rfl := Option.some.inj H
     go_enter Tryd.func59, Tryd.ntmps59
     go_wp2_with (first | ((with_reducible refine gC 93 rfl ?_); refine goesL_ (some 5) rfl rfl Tryd.func93 (by kernel_rfl) rfl #[.string a0, .string (⟨#[45]⟩ : ByteArray)] rfl yA ?_; (with_reducible refine (strings_TrimPrefix.calls _ _ _ _ A2.out).mono ?_); rintro e w' ⟨rfl, ⟨nd, rfl⟩⟩; refine ⟨_, rfl, ?_⟩; have p6 : 0 ≤ (0 : Int) := (by omega); have q6 : 0 < t101.size := (by have : (0 : Int) < (t101.size : Int) := of_decide_eq_true yY; omega); have hx6 : ∀ h : 0 < t101.size, ((t101[0]'h).toNat : Int) = bt t101 0 := bt_at t101 0; clear p6; have qi6 : (0 < (t101.size : Int)) = True := eq_true (of_decide_eq_true yY); replace q6 := eq_true q6) | ((with_reducible refine gC 94 rfl ?_); refine goesL_ (some 24) rfl rfl Tryd.func94 (by kernel_rfl) rfl #[.string t101, .func (.func 95) #[] #[]] rfl yA ?_; (with_reducible refine (ContainsFunc_May.calls _ _ _ A11.out).mono ?_); rintro e w12 ⟨rfl, hb⟩; refine ⟨_, rfl, ?_⟩; replace HB := am (below_step (kL HB) hb)))
     go_ret
     exact ⟨yE, (kL HB)⟩
   ·rw [if_neg c5] at H
    exact absurd H (by simp)
def width_Fits.j0 : Nat → Int → Int → Int → Bool → Option (Bool)
 | 0, _, _, _, _ => none
 | k + 1, x0, x1, x6, x7 => if x7 = true then (some true) else (if x6 = 8 then (if 0 ≤ (wrap64 (x1 - 1)) then (if x0 ≥ (wrap64 (-(shl .i64 1 (wrap64 (x1 - 1))))) then (some (decide (x0 < (shl .i64 1 (wrap64 (x1 - 1)))))) else (some false)) else (none)) else (if x6 = 16 then (if 0 ≤ (wrap64 (x1 - 1)) then (if x0 ≥ (wrap64 (-(shl .i64 1 (wrap64 (x1 - 1))))) then (some (decide (x0 < (shl .i64 1 (wrap64 (x1 - 1)))))) else (some false)) else (none)) else (if x6 = 32 then (if 0 ≤ (wrap64 (x1 - 1)) then (if x0 ≥ (wrap64 (-(shl .i64 1 (wrap64 (x1 - 1))))) then (some (decide (x0 < (shl .i64 1 (wrap64 (x1 - 1)))))) else (some false)) else (none)) else (some false))))
def width_Fits.f (k : Nat) (a0 : Int) (a1 : Int) : Option (Bool) := if a1 = 64 then (width_Fits.j0 k a0 a1 a1 (a1 == 64)) else (width_Fits.j0 k a0 a1 a1 (a1 == 128))
theorem width_Fits.mono_l : ∀ k, (∀ y0 y1 y2 y3, LeO (width_Fits.j0 k y0 y1 y2 y3) (width_Fits.j0 (k + 1) y0 y1 y2 y3))
 | 0 => fun _ _ _ _ r h => by simp [width_Fits.j0] at h
 | k + 1 => by
  have ih0 := width_Fits.mono_l k
  ·intro y0 y1 y2 y3
   unfold width_Fits.j0
   with_reducible repeat' first
   | exact ih0 _ _ _ _
   | exact LeO.refl _
   | exact LeO.none _
   | refine LeO.ite ?_ ?_
   | refine LeO.bind ?_ (fun _ => ?_)
theorem width_Fits.mono : ∀ a0 a1 k, LeO (width_Fits.f k a0 a1) (width_Fits.f (k + 1) a0 a1) := by
 intro a0 a1 k
 have ih0 := width_Fits.mono_l k
 unfold width_Fits.f
 with_reducible repeat' first
   | exact ih0 _ _ _ _
   | exact LeO.refl _
   | exact LeO.none _
   | refine LeO.ite ?_ ?_
   | refine LeO.bind ?_ (fun _ => ?_)
set_option maxHeartbeats 8000000 in
set_option maxRecDepth 100000 in
theorem width_Fits.calls (k : Nat) (a0 : Int) (a1 : Int) (r : Bool) (w : World) (h : width_Fits.f k a0 a1 = some r) :
  Calls Tryd.prog 73 #[.int .i64 a0, .int .i64 a1] w fun e w' => e = .returned (.bool r) ∧ Drawn0 w w' := by
 unfold width_Fits.f at h
 have H := h
 clear h
 have HC3 := am H
 clear H
 go_enter Tryd.func73, Tryd.ntmps73
 go_upto_if 7 with (fail)
 go_cut [7] (fun v7 wc => ∃ (kq : Nat) (x7_2 : Bool), v7 = .bool x7_2 ∧ Aside0 (width_Fits.j0 kq a0 a1 a1 x7_2 = some r) ∧ Aside0 (kq ≤ k) ∧ Drawn0 w wc)
 case first =>
  have H := HC3.out
  clear HC3
  by_cases c4 : a1 = 64
  ·rw [if_pos c4] at H
   have c4b0 := eT c4
   have c4b1 := nF c4
   clear c4
   (first | rw [c4b0] | (simp only [i64_w, i32_w]; rw [c4b0]) | skip)
   have H' := am H
   clear H
   go_wp2
   go_meet
   case rel => exact ⟨_, ((a1 == 64)), yS, H', ⟨yO⟩, by repeat (first | exact Drawn0.refl _ | apply Drawn0.step)⟩
  ·rw [if_neg c4] at H
   have c4b0 := eF c4
   have c4b1 := nT c4
   (first | rw [c4b0] | (simp only [i64_w, i32_w]; rw [c4b0]) | skip)
   have H' := am H
   clear H
   go_wp2
   go_meet
   case rel => exact ⟨_, ((a1 == 128)), yS, H', ⟨yO⟩, by repeat (first | exact Drawn0.refl _ | apply Drawn0.step)⟩
 case rest =>
  clear HC3
  try clear p2
  try clear c4
  try clear c4b0
  try clear c4b1
  obtain ⟨kq, x7_2, rfl, HA, HJ2, ⟨mc2, rfl⟩⟩ := hcut
  cases kq with
  | zero => exact absurd HA.out (by simp [width_Fits.j0])
  | succ kj2 =>
   have H := HA.out
   clear HA
   simp only [width_Fits.j0] at H
   by_cases c5 : x7_2 = true
   ·subst c5
    rw [if_pos rfl] at H
    obtain rfl := Option.some.inj H
    go_wp2
    go_ret
    exact ⟨yS, by repeat (first | exact Drawn0.refl _ | apply Drawn0.step)⟩
   ·replace c5 := Bool.eq_false_iff.mpr c5
    subst c5
    rw [if_neg (show ¬ (false = true) by decide)] at H
    by_cases c6 : a1 = 8
    ·rw [if_pos c6] at H
     have c6b0 := eT c6
     have c6b1 := nF c6
     clear c6
     obtain ⟨ji7, hji7⟩ : ∃ j_ : Int, (wrap64 (a1 - 1)) = j_ := ⟨_, rfl⟩
     replace H : (if 0 ≤ (ji7) then (if a0 ≥ (wrap64 (-(shl .i64 1 (ji7)))) then (some (decide (a0 < (shl .i64 1 (ji7))))) else (some false)) else (none)) = some r := by first | (rw [hji7] at H; exact H) | (simp only [hji7] at H ⊢; exact H)
     have hji7w : (IntKind.i64.wrap (a1 - 1)) = ji7 := (i64_w _).trans hji7
     by_cases c8 : 0 ≤ (ji7)
     ·rw [if_pos c8] at H
      have c8b0 := eq_true c8
      have c8b1 : decide (0 ≤ (ji7)) = true := decide_eq_true c8
      clear c8
      obtain ⟨ji9, hji9⟩ : ∃ j_ : Int, (shl .i64 1 (ji7)) = j_ := ⟨_, rfl⟩
      replace H : (if a0 ≥ (wrap64 (-(ji9))) then (some (decide (a0 < (ji9)))) else (some false)) = some r := by first | (rw [hji9] at H; exact H) | (simp only [hji9] at H ⊢; exact H)
      have hji9_ : (IntKind.i64.wrap (1 * 2 ^ min (ji7).toNat 64)) = ji9 := hji9
      have hji9z : (ji7) ≤ 64 → (IntKind.i64.wrap (1 * 2 ^ (ji7).toNat)) = ji9 := shl_small hji9
      have hji9u : (IntKind.i64.wrap (2 ^ min (ji7).toNat 64)) = ji9 := by have h_ := hji9_; rw [Int.one_mul] at h_; exact h_
      have hji9v : (ji7) ≤ 64 → (IntKind.i64.wrap (2 ^ (ji7).toNat)) = ji9 := fun hle_ => by have h_ := hji9z hle_; rw [Int.one_mul] at h_; exact h_
      have hji9y : (wrap64 (1 * 2 ^ min (ji7).toNat 64)) = ji9 := (i64_w _).symm.trans hji9_
      have hji9x : (ji7) ≤ 64 → (wrap64 (1 * 2 ^ (ji7).toNat)) = ji9 := fun h_ => (i64_w _).symm.trans (hji9z h_)
      by_cases c10 : a0 ≥ (wrap64 (-(ji9)))
      ·rw [if_pos c10] at H
       have c10b0 : decide ((wrap64 (-(ji9))) ≤ a0) = true := decide_eq_true c10
       clear c10
       obtain rfl := Option.some.inj H
       go_wp2
       go_ret
       exact ⟨by first | rfl | (simp; done) | (simp only [← hji7, ← hji9] <;> (first | rfl | simp)) | (simp [*]; done), by repeat (first | exact Drawn0.refl _ | apply Drawn0.step)⟩
      ·rw [if_neg c10] at H
       have c10b0 : decide ((wrap64 (-(ji9))) ≤ a0) = false := decide_eq_false c10
       clear c10
       obtain rfl := Option.some.inj H
       go_wp2
       go_ret
       exact ⟨by first | rfl | (simp; done) | (simp only [← hji7, ← hji9] <;> (first | rfl | simp)) | (simp [*]; done), by repeat (first | exact Drawn0.refl _ | apply Drawn0.step)⟩
     ·rw [if_neg c8] at H
      exact absurd H (by simp)
    ·rw [if_neg c6] at H
     have c6b0 := eF c6
     have c6b1 := nT c6
     by_cases c11 : a1 = 16
     ·rw [if_pos c11] at H
      have c11b0 := eT c11
      have c11b1 := nF c11
      clear c11
      obtain ⟨ji12, hji12⟩ : ∃ j_ : Int, (wrap64 (a1 - 1)) = j_ := ⟨_, rfl⟩
      replace H : (if 0 ≤ (ji12) then (if a0 ≥ (wrap64 (-(shl .i64 1 (ji12)))) then (some (decide (a0 < (shl .i64 1 (ji12))))) else (some false)) else (none)) = some r := by first | (rw [hji12] at H; exact H) | (simp only [hji12] at H ⊢; exact H)
      have hji12w : (IntKind.i64.wrap (a1 - 1)) = ji12 := (i64_w _).trans hji12
      by_cases c13 : 0 ≤ (ji12)
      ·rw [if_pos c13] at H
       have c13b0 := eq_true c13
       have c13b1 : decide (0 ≤ (ji12)) = true := decide_eq_true c13
       clear c13
       obtain ⟨ji14, hji14⟩ : ∃ j_ : Int, (shl .i64 1 (ji12)) = j_ := ⟨_, rfl⟩
       replace H : (if a0 ≥ (wrap64 (-(ji14))) then (some (decide (a0 < (ji14)))) else (some false)) = some r := by first | (rw [hji14] at H; exact H) | (simp only [hji14] at H ⊢; exact H)
       have hji14_ : (IntKind.i64.wrap (1 * 2 ^ min (ji12).toNat 64)) = ji14 := hji14
       have hji14z : (ji12) ≤ 64 → (IntKind.i64.wrap (1 * 2 ^ (ji12).toNat)) = ji14 := shl_small hji14
       have hji14u : (IntKind.i64.wrap (2 ^ min (ji12).toNat 64)) = ji14 := by have h_ := hji14_; rw [Int.one_mul] at h_; exact h_
       have hji14v : (ji12) ≤ 64 → (IntKind.i64.wrap (2 ^ (ji12).toNat)) = ji14 := fun hle_ => by have h_ := hji14z hle_; rw [Int.one_mul] at h_; exact h_
       have hji14y : (wrap64 (1 * 2 ^ min (ji12).toNat 64)) = ji14 := (i64_w _).symm.trans hji14_
       have hji14x : (ji12) ≤ 64 → (wrap64 (1 * 2 ^ (ji12).toNat)) = ji14 := fun h_ => (i64_w _).symm.trans (hji14z h_)
       by_cases c15 : a0 ≥ (wrap64 (-(ji14)))
       ·rw [if_pos c15] at H
        have c15b0 : decide ((wrap64 (-(ji14))) ≤ a0) = true := decide_eq_true c15
        clear c15
        obtain rfl := Option.some.inj H
        go_wp2
        go_ret
        exact ⟨by first | rfl | (simp; done) | (simp only [← hji12, ← hji14] <;> (first | rfl | simp)) | (simp [*]; done), by repeat (first | exact Drawn0.refl _ | apply Drawn0.step)⟩
       ·rw [if_neg c15] at H
        have c15b0 : decide ((wrap64 (-(ji14))) ≤ a0) = false := decide_eq_false c15
        clear c15
        obtain rfl := Option.some.inj H
        go_wp2
        go_ret
        exact ⟨by first | rfl | (simp; done) | (simp only [← hji12, ← hji14] <;> (first | rfl | simp)) | (simp [*]; done), by repeat (first | exact Drawn0.refl _ | apply Drawn0.step)⟩
      ·rw [if_neg c13] at H
       exact absurd H (by simp)
     ·rw [if_neg c11] at H
      have c11b0 := eF c11
      have c11b1 := nT c11
      by_cases c16 : a1 = 32
      ·rw [if_pos c16] at H
       have c16b0 := eT c16
       have c16b1 := nF c16
       clear c16
       obtain ⟨ji17, hji17⟩ : ∃ j_ : Int, (wrap64 (a1 - 1)) = j_ := ⟨_, rfl⟩
       replace H : (if 0 ≤ (ji17) then (if a0 ≥ (wrap64 (-(shl .i64 1 (ji17)))) then (some (decide (a0 < (shl .i64 1 (ji17))))) else (some false)) else (none)) = some r := by first | (rw [hji17] at H; exact H) | (simp only [hji17] at H ⊢; exact H)
       have hji17w : (IntKind.i64.wrap (a1 - 1)) = ji17 := (i64_w _).trans hji17
       by_cases c18 : 0 ≤ (ji17)
       ·rw [if_pos c18] at H
        have c18b0 := eq_true c18
        have c18b1 : decide (0 ≤ (ji17)) = true := decide_eq_true c18
        clear c18
        obtain ⟨ji19, hji19⟩ : ∃ j_ : Int, (shl .i64 1 (ji17)) = j_ := ⟨_, rfl⟩
        replace H : (if a0 ≥ (wrap64 (-(ji19))) then (some (decide (a0 < (ji19)))) else (some false)) = some r := by first | (rw [hji19] at H; exact H) | (simp only [hji19] at H ⊢; exact H)
        have hji19_ : (IntKind.i64.wrap (1 * 2 ^ min (ji17).toNat 64)) = ji19 := hji19
        have hji19z : (ji17) ≤ 64 → (IntKind.i64.wrap (1 * 2 ^ (ji17).toNat)) = ji19 := shl_small hji19
        have hji19u : (IntKind.i64.wrap (2 ^ min (ji17).toNat 64)) = ji19 := by have h_ := hji19_; rw [Int.one_mul] at h_; exact h_
        have hji19v : (ji17) ≤ 64 → (IntKind.i64.wrap (2 ^ (ji17).toNat)) = ji19 := fun hle_ => by have h_ := hji19z hle_; rw [Int.one_mul] at h_; exact h_
        have hji19y : (wrap64 (1 * 2 ^ min (ji17).toNat 64)) = ji19 := (i64_w _).symm.trans hji19_
        have hji19x : (ji17) ≤ 64 → (wrap64 (1 * 2 ^ (ji17).toNat)) = ji19 := fun h_ => (i64_w _).symm.trans (hji19z h_)
        by_cases c20 : a0 ≥ (wrap64 (-(ji19)))
        ·rw [if_pos c20] at H
         have c20b0 : decide ((wrap64 (-(ji19))) ≤ a0) = true := decide_eq_true c20
         clear c20
         obtain rfl := Option.some.inj H
         go_wp2
         go_ret
         exact ⟨by first | rfl | (simp; done) | (simp only [← hji17, ← hji19] <;> (first | rfl | simp)) | (simp [*]; done), by repeat (first | exact Drawn0.refl _ | apply Drawn0.step)⟩
        ·rw [if_neg c20] at H
         have c20b0 : decide ((wrap64 (-(ji19))) ≤ a0) = false := decide_eq_false c20
         clear c20
         obtain rfl := Option.some.inj H
         go_wp2
         go_ret
         exact ⟨by first | rfl | (simp; done) | (simp only [← hji17, ← hji19] <;> (first | rfl | simp)) | (simp [*]; done), by repeat (first | exact Drawn0.refl _ | apply Drawn0.step)⟩
       ·rw [if_neg c18] at H
        exact absurd H (by simp)
      ·rw [if_neg c16] at H
       have c16b0 := eF c16
       have c16b1 := nT c16
       obtain rfl := Option.some.inj H
       go_wp2
       go_ret
       exact ⟨yS, by repeat (first | exact Drawn0.refl _ | apply Drawn0.step)⟩
end Go.Proofs.YthcijldahbalcaaDoor.P
end
section
namespace Go.Proofs.YthcijldahbalcaaDoor.P
open Go.RowKit Go.Proofs.YthcijldahbalcaaDoorW.PrintWords Go.Proofs.YthcijldahbalcaaDoorW.PrintLast Go.Proofs.YthcijldahbalcaaDoorW.PrintMore
attribute [local go_sem] max2_int min2_int max_two min_two max_three min_three max_four min_four   
set_option linter.unusedVariables false
set_option linter.unusedSimpArgs false
def slices_Index_int_int.l0 : Nat → List Int → Int → Int → Int → Option (Int)
 | 0, _, _, _, _ => none
 | k + 1, x0, x1, x7, x8 => if x8 < x7 then (if 0 ≤ x8 then (if x8 < (x0.length : Int) then (if x1 = (rd x0 x8) then (some x8) else (slices_Index_int_int.l0 k x0 x1 x7 (wrap64 (x8 + 1)))) else (none)) else (none)) else (some (-1))
def slices_Index_int_int.f (k : Nat) (l0 : List Int) (a1 : Int) : Option (Int) := slices_Index_int_int.l0 k l0 a1 (l0.length : Int) 0
theorem slices_Index_int_int.mono_l : ∀ k, (∀ y0 y1 y2 y3, LeO (slices_Index_int_int.l0 k y0 y1 y2 y3) (slices_Index_int_int.l0 (k + 1) y0 y1 y2 y3))
 | 0 => fun _ _ _ _ r h => by simp [slices_Index_int_int.l0] at h
 | k + 1 => by
  have ih0 := slices_Index_int_int.mono_l k
  ·intro y0 y1 y2 y3
   unfold slices_Index_int_int.l0
   with_reducible repeat' first
   | exact ih0 _ _ _ _
   | exact LeO.refl _
   | exact LeO.none _
   | refine LeO.ite ?_ ?_
   | refine LeO.bind ?_ (fun _ => ?_)
theorem slices_Index_int_int.mono : ∀ a0 a1 k, LeO (slices_Index_int_int.f k a0 a1) (slices_Index_int_int.f (k + 1) a0 a1) := by
 intro a0 a1 k
 have ih0 := slices_Index_int_int.mono_l k
 unfold slices_Index_int_int.f
 with_reducible repeat' first
   | exact ih0 _ _ _ _
   | exact LeO.refl _
   | exact LeO.none _
   | refine LeO.ite ?_ ?_
   | refine LeO.bind ?_ (fun _ => ?_)
set_option maxHeartbeats 8000000 in
set_option maxRecDepth 100000 in
theorem slices_Index_int_int.calls (k : Nat) (A0 : Option Addr) (c0 : Nat) (l0 : List Int) (a1 : Int) (r : Int) (w : World) (hr0 : Kd.C (Kd.int .i64) w A0 l0.length l0) (hc0 : l0.length ≤ c0) (h : slices_Index_int_int.f k l0 a1 = some r) :
  Calls Tryd.prog 112 #[.slice A0 l0.length c0, .int .i64 a1] w fun e w' => e = .returned (.int .i64 r) ∧ Drawn0 w w' := by
 have HR0 := am hr0
 have HC0 := am hc0
 clear hr0 hc0
 unfold slices_Index_int_int.f at h
 have H := h
 clear h
 have H' := am H
 clear H
 go_enter Tryd.func112, Tryd.ntmps112
 go_wp2
 go_loopg [8] k (fun kq v8 w' => ∃ (x8_1 : Int), v8 = .int .i64 x8_1 ∧ Aside0 (slices_Index_int_int.l0 kq l0 a1 (l0.length : Int) x8_1 = some r) ∧ Aside0 (kq ≤ k) ∧ Drawn0 w w')
 case atStart => exact ⟨(0), yS, H', ⟨Nat.le_refl _⟩, by repeat (first | exact Drawn0.refl _ | apply Drawn0.step)⟩
 case round =>
  clear H'
  try clear c1
  try clear p2
  obtain ⟨x8_1, rfl, HA, HK1, ⟨m1, rfl⟩⟩ := hrel
  cases gk with
  | zero => exact absurd HA.out (by simp [slices_Index_int_int.l0])
  | succ k1 =>
   have H := HA.out
   clear HA
   simp only [slices_Index_int_int.l0] at H
   by_cases c3 : x8_1 < (l0.length : Int)
   ·rw [if_pos c3] at H
    have c3b0 : decide (x8_1 < (l0.length : Int)) = true := decide_eq_true c3
    clear c3
    by_cases c4 : 0 ≤ x8_1
    ·rw [if_pos c4] at H
     have c4b0 : decide (0 ≤ x8_1) = true := decide_eq_true c4
     clear c4
     by_cases c5 : x8_1 < (l0.length : Int)
     ·rw [if_pos c5] at H
      have c5b0 : decide (x8_1 < (l0.length : Int)) = true := decide_eq_true c5
      clear c5
      by_cases c6 : a1 = (rd l0 x8_1)
      ·rw [if_pos c6] at H
       have c6b0 := eT c6
       have c6b1 := nF c6
       clear c6
       obtain rfl := Option.some.inj H
       have p109 : 0 ≤ (x8_1 : Int) := of_decide_eq_true yY
       have q109 : x8_1 < (l0.length : Int) := of_decide_eq_true yY
       obtain ⟨ad109, e109, hx109_0⟩ := Kd.at_int HR0.out x8_1 p109 q109
       cases e109
       replace p109 := eq_true p109
       replace q109 := eq_true q109
       go_wp2
       go_ret
       exact ⟨yS, by repeat (first | exact Drawn0.refl _ | apply Drawn0.step)⟩
      ·rw [if_neg c6] at H
       have c6b0 := eF c6
       have c6b1 := nT c6
       have H' := am H
       clear H
       have p109 : 0 ≤ (x8_1 : Int) := of_decide_eq_true yY
       have q109 : x8_1 < (l0.length : Int) := of_decide_eq_true yY
       obtain ⟨ad109, e109, hx109_0⟩ := Kd.at_int HR0.out x8_1 p109 q109
       cases e109
       replace p109 := eq_true p109
       replace q109 := eq_true q109
       go_wp2
       go_roundg k1
       case measure => have := HK1.out; omega
       case rel => exact ⟨(wrap64 (x8_1 + 1)), yS, H', ⟨by have := HK1.out; omega⟩, by repeat (first | exact Drawn0.refl _ | apply Drawn0.step)⟩
     ·rw [if_neg c5] at H
      exact absurd H (by simp)
    ·rw [if_neg c4] at H
     exact absurd H (by simp)
   ·rw [if_neg c3] at H
    have c3b0 : decide (x8_1 < (l0.length : Int)) = false := decide_eq_false c3
    clear c3
    obtain rfl := Option.some.inj H
    go_wp2
    go_ret
    exact ⟨yS, by repeat (first | exact Drawn0.refl _ | apply Drawn0.step)⟩
def slices_Contains_int_int.f (k : Nat) (l0 : List Int) (a1 : Int) : Option (Bool) := (slices_Index_int_int.f k l0 a1).bind fun t110 => (some (decide (t110 ≥ 0)))
theorem slices_Contains_int_int.mono : ∀ a0 a1 k, LeO (slices_Contains_int_int.f k a0 a1) (slices_Contains_int_int.f (k + 1) a0 a1) := by
 intro a0 a1 k
 unfold slices_Contains_int_int.f
 with_reducible repeat' first
   | exact slices_Index_int_int.mono _ _ _
   | exact LeO.refl _
   | exact LeO.none _
   | refine LeO.ite ?_ ?_
   | refine LeO.bind ?_ (fun _ => ?_)
set_option maxHeartbeats 8000000 in
set_option maxRecDepth 100000 in
theorem slices_Contains_int_int.calls (k : Nat) (A0 : Option Addr) (c0 : Nat) (l0 : List Int) (a1 : Int) (r : Bool) (w : World) (hr0 : Kd.C (Kd.int .i64) w A0 l0.length l0) (hc0 : l0.length ≤ c0) (h : slices_Contains_int_int.f k l0 a1 = some r) :
  Calls Tryd.prog 91 #[.slice A0 l0.length c0, .int .i64 a1] w fun e w' => e = .returned (.bool r) ∧ Drawn0 w w' := by
 have HR0 := am hr0
 have HC0 := am hc0
 clear hr0 hc0
 unfold slices_Contains_int_int.f at h
 have H := h
 clear h
 obtain ⟨t110, A3, H⟩ := bO H
 try dsimp only at H
 obtain rfl := Option.some.inj H
 go_enter Tryd.func91, Tryd.ntmps91
 go_wp2_with ((with_reducible refine gC 112 rfl ?_); refine goesL_ (some 7) rfl rfl Tryd.func112 (by kernel_rfl) rfl #[.slice A0 l0.length c0, .int .i64 a1] rfl yA ?_; (with_reducible refine (slices_Index_int_int.calls _ _ _ _ _ _ _ ?side1 ?side2 A3.out).mono ?_); (case side1 => repeat (first | exact HR0.out | (with_reducible refine Kd.C_alloc ?_ _) | (with_reducible refine Kd.C_drewN ?_ _) | (with_reducible refine Kd.C_drew ?_))); (case side2 => exact HC0.out); rintro e w' ⟨rfl, ⟨nd, rfl⟩⟩; refine ⟨_, rfl, ?_⟩)
 go_ret
 exact ⟨yS, by repeat (first | exact Drawn0.refl _ | apply Drawn0.step)⟩
def shape_Size.l0 : Nat → Int → List Int → Int → Int → Option (Int × Int)
 | 0, _, _, _, _ => none
 | k + 1, x4, x20, x21, x22 => if x22 < x21 then (if 0 ≤ x22 then (if x22 < (x20.length : Int) then (if x4 = 0 then (none) else (if (rd x20 x22) > (wrap64 (Int.tdiv (4096 : Int) x4)) then (some (0, 8)) else (shape_Size.l0 k (wrap64 (x4 * (rd x20 x22))) x20 x21 (wrap64 (x22 + 1))))) else (none)) else (none)) else (some (x4, 0))
def shape_Size.f (k : Nat) (l0 : List Int) : Option (Int × Int) := if (l0.length : Int) > 3 then (some (0, 3)) else ((ContainsFunc_Size1.f k l0).bind fun t111 => (if t111 = true then (some (0, 5)) else ((ContainsFunc_Size2.f k l0).bind fun t112 => (if t112 = true then (some (0, 8)) else ((slices_Contains_int_int.f k l0 0).bind fun t113 => (if t113 = true then (some (0, 0)) else (shape_Size.l0 k 1 l0 (l0.length : Int) 0)))))))
theorem shape_Size.mono_l : ∀ k, (∀ y0 y1 y2 y3, LeO (shape_Size.l0 k y0 y1 y2 y3) (shape_Size.l0 (k + 1) y0 y1 y2 y3))
 | 0 => fun _ _ _ _ r h => by simp [shape_Size.l0] at h
 | k + 1 => by
  have ih0 := shape_Size.mono_l k
  ·intro y0 y1 y2 y3
   unfold shape_Size.l0
   with_reducible repeat' first
   | exact ih0 _ _ _ _
   | exact ContainsFunc_Size1.mono _ _
   | exact ContainsFunc_Size2.mono _ _
   | exact slices_Contains_int_int.mono _ _ _
   | exact LeO.refl _
   | exact LeO.none _
   | refine LeO.ite ?_ ?_
   | refine LeO.bind ?_ (fun _ => ?_)
theorem shape_Size.mono : ∀ a0 k, LeO (shape_Size.f k a0) (shape_Size.f (k + 1) a0) := by
 intro a0 k
 have ih0 := shape_Size.mono_l k
 unfold shape_Size.f
 with_reducible repeat' first
   | exact ih0 _ _ _ _
   | exact ContainsFunc_Size1.mono _ _
   | exact ContainsFunc_Size2.mono _ _
   | exact slices_Contains_int_int.mono _ _ _
   | exact LeO.refl _
   | exact LeO.none _
   | refine LeO.ite ?_ ?_
   | refine LeO.bind ?_ (fun _ => ?_)
set_option maxHeartbeats 8000000 in
set_option maxRecDepth 100000 in
theorem shape_Size.calls (k : Nat) (A0 : Option Addr) (c0 : Nat) (l0 : List Int) (r1 : Int) (r2 : Int) (w : World) (hr0 : Kd.C (Kd.int .i64) w A0 l0.length l0) (hc0 : l0.length ≤ c0) (h : shape_Size.f k l0 = some (r1, r2)) :
  Calls Tryd.prog 56 #[.slice A0 l0.length c0] w fun e w' => e = .returned (.tuple #[.int .i64 r1, .int .i64 r2]) ∧ Drawn0 w w' := by
 have HR0 := am hr0
 have HC0 := am hc0
 clear hr0 hc0
 unfold shape_Size.f at h
 have H := h
 clear h
 by_cases c2 : (l0.length : Int) > 3
 ·rw [if_pos c2] at H
  have c2b0 : decide (3 < (l0.length : Int)) = true := decide_eq_true c2
  have c2b1 : decide (3 < l0.length) = true := decide_eq_true (by omega)
  clear c2
  simp only [Option.some.injEq, Prod.mk.injEq] at H
  obtain ⟨rfl, rfl⟩ := H
  go_enter Tryd.func56, Tryd.ntmps56
  go_wp2
  go_ret2
  exact ⟨yS, by repeat (first | exact Drawn0.refl _ | apply Drawn0.step)⟩
 ·rw [if_neg c2] at H
  have c2b0 : decide (3 < (l0.length : Int)) = false := decide_eq_false c2
  have c2b1 : decide (3 < l0.length) = false := decide_eq_false (by omega)
  clear c2
  obtain ⟨t111, A3, H⟩ := bO H
  try dsimp only at H
  by_cases c4 : t111 = true
  ·subst c4
   rw [if_pos rfl] at H
   simp only [Option.some.injEq, Prod.mk.injEq] at H
   obtain ⟨rfl, rfl⟩ := H
   go_enter Tryd.func56, Tryd.ntmps56
   go_wp2_with ((with_reducible refine gC 88 rfl ?_); refine goesL_ (some 13) rfl rfl Tryd.func88 (by kernel_rfl) rfl #[.slice A0 l0.length c0, .func (.func 89) #[] #[]] rfl yA ?_; (with_reducible refine (ContainsFunc_Size1.calls _ _ _ _ _ _ ?side1 ?side2 A3.out).mono ?_); (case side1 => repeat (first | exact HR0.out | (with_reducible refine Kd.C_alloc ?_ _) | (with_reducible refine Kd.C_drewN ?_ _) | (with_reducible refine Kd.C_drew ?_))); (case side2 => exact HC0.out); rintro e w' ⟨rfl, ⟨nd, rfl⟩⟩; refine ⟨_, rfl, ?_⟩)
   go_ret2
   exact ⟨yS, by repeat (first | exact Drawn0.refl _ | apply Drawn0.step)⟩
  ·replace c4 := Bool.eq_false_iff.mpr c4
   subst c4
   rw [if_neg (show ¬ (false = true) by decide)] at H
   obtain ⟨t112, A5, H⟩ := bO H
   try dsimp only at H
   by_cases c6 : t112 = true
   ·subst c6
    rw [if_pos rfl] at H
    simp only [Option.some.injEq, Prod.mk.injEq] at H
    obtain ⟨rfl, rfl⟩ := H
    go_enter Tryd.func56, Tryd.ntmps56
    go_wp2_with (first | ((with_reducible refine gC 88 rfl ?_); refine goesL_ (some 13) rfl rfl Tryd.func88 (by kernel_rfl) rfl #[.slice A0 l0.length c0, .func (.func 89) #[] #[]] rfl yA ?_; (with_reducible refine (ContainsFunc_Size1.calls _ _ _ _ _ _ ?side1 ?side2 A3.out).mono ?_); (case side1 => repeat (first | exact HR0.out | (with_reducible refine Kd.C_alloc ?_ _) | (with_reducible refine Kd.C_drewN ?_ _) | (with_reducible refine Kd.C_drew ?_))); (case side2 => exact HC0.out); rintro e w' ⟨rfl, ⟨nd, rfl⟩⟩; refine ⟨_, rfl, ?_⟩) | ((with_reducible refine gC 88 rfl ?_); refine goesL_ (some 16) rfl rfl Tryd.func88 (by kernel_rfl) rfl #[.slice A0 l0.length c0, .func (.func 90) #[] #[]] rfl yA ?_; (with_reducible refine (ContainsFunc_Size2.calls _ _ _ _ _ _ ?side1 ?side2 A5.out).mono ?_); (case side1 => repeat (first | exact HR0.out | (with_reducible refine Kd.C_alloc ?_ _) | (with_reducible refine Kd.C_drewN ?_ _) | (with_reducible refine Kd.C_drew ?_))); (case side2 => exact HC0.out); rintro e w' ⟨rfl, ⟨nd, rfl⟩⟩; refine ⟨_, rfl, ?_⟩))
    go_ret2
    exact ⟨yS, by repeat (first | exact Drawn0.refl _ | apply Drawn0.step)⟩
   ·replace c6 := Bool.eq_false_iff.mpr c6
    subst c6
    rw [if_neg (show ¬ (false = true) by decide)] at H
    obtain ⟨t113, A7, H⟩ := bO H
    try dsimp only at H
    by_cases c8 : t113 = true
    ·subst c8
     rw [if_pos rfl] at H
     simp only [Option.some.injEq, Prod.mk.injEq] at H
     obtain ⟨rfl, rfl⟩ := H
     go_enter Tryd.func56, Tryd.ntmps56
     go_wp2_with (first | ((with_reducible refine gC 88 rfl ?_); refine goesL_ (some 13) rfl rfl Tryd.func88 (by kernel_rfl) rfl #[.slice A0 l0.length c0, .func (.func 89) #[] #[]] rfl yA ?_; (with_reducible refine (ContainsFunc_Size1.calls _ _ _ _ _ _ ?side1 ?side2 A3.out).mono ?_); (case side1 => repeat (first | exact HR0.out | (with_reducible refine Kd.C_alloc ?_ _) | (with_reducible refine Kd.C_drewN ?_ _) | (with_reducible refine Kd.C_drew ?_))); (case side2 => exact HC0.out); rintro e w' ⟨rfl, ⟨nd, rfl⟩⟩; refine ⟨_, rfl, ?_⟩) | ((with_reducible refine gC 88 rfl ?_); refine goesL_ (some 16) rfl rfl Tryd.func88 (by kernel_rfl) rfl #[.slice A0 l0.length c0, .func (.func 90) #[] #[]] rfl yA ?_; (with_reducible refine (ContainsFunc_Size2.calls _ _ _ _ _ _ ?side1 ?side2 A5.out).mono ?_); (case side1 => repeat (first | exact HR0.out | (with_reducible refine Kd.C_alloc ?_ _) | (with_reducible refine Kd.C_drewN ?_ _) | (with_reducible refine Kd.C_drew ?_))); (case side2 => exact HC0.out); rintro e w' ⟨rfl, ⟨nd, rfl⟩⟩; refine ⟨_, rfl, ?_⟩) | ((with_reducible refine gC 91 rfl ?_); refine goesL_ (some 19) rfl rfl Tryd.func91 (by kernel_rfl) rfl #[.slice A0 l0.length c0, .int .i64 0] rfl yA ?_; (with_reducible refine (slices_Contains_int_int.calls _ _ _ _ _ _ _ ?side1 ?side2 A7.out).mono ?_); (case side1 => repeat (first | exact HR0.out | (with_reducible refine Kd.C_alloc ?_ _) | (with_reducible refine Kd.C_drewN ?_ _) | (with_reducible refine Kd.C_drew ?_))); (case side2 => exact HC0.out); rintro e w' ⟨rfl, ⟨nd, rfl⟩⟩; refine ⟨_, rfl, ?_⟩))
     go_ret2
     exact ⟨yS, by repeat (first | exact Drawn0.refl _ | apply Drawn0.step)⟩
    ·replace c8 := Bool.eq_false_iff.mpr c8
     subst c8
     rw [if_neg (show ¬ (false = true) by decide)] at H
     have H' := am H
     clear H
     go_enter Tryd.func56, Tryd.ntmps56
     go_wp2_with (first | ((with_reducible refine gC 88 rfl ?_); refine goesL_ (some 13) rfl rfl Tryd.func88 (by kernel_rfl) rfl #[.slice A0 l0.length c0, .func (.func 89) #[] #[]] rfl yA ?_; (with_reducible refine (ContainsFunc_Size1.calls _ _ _ _ _ _ ?side1 ?side2 A3.out).mono ?_); (case side1 => repeat (first | exact HR0.out | (with_reducible refine Kd.C_alloc ?_ _) | (with_reducible refine Kd.C_drewN ?_ _) | (with_reducible refine Kd.C_drew ?_))); (case side2 => exact HC0.out); rintro e w' ⟨rfl, ⟨nd, rfl⟩⟩; refine ⟨_, rfl, ?_⟩) | ((with_reducible refine gC 88 rfl ?_); refine goesL_ (some 16) rfl rfl Tryd.func88 (by kernel_rfl) rfl #[.slice A0 l0.length c0, .func (.func 90) #[] #[]] rfl yA ?_; (with_reducible refine (ContainsFunc_Size2.calls _ _ _ _ _ _ ?side1 ?side2 A5.out).mono ?_); (case side1 => repeat (first | exact HR0.out | (with_reducible refine Kd.C_alloc ?_ _) | (with_reducible refine Kd.C_drewN ?_ _) | (with_reducible refine Kd.C_drew ?_))); (case side2 => exact HC0.out); rintro e w' ⟨rfl, ⟨nd, rfl⟩⟩; refine ⟨_, rfl, ?_⟩) | ((with_reducible refine gC 91 rfl ?_); refine goesL_ (some 19) rfl rfl Tryd.func91 (by kernel_rfl) rfl #[.slice A0 l0.length c0, .int .i64 0] rfl yA ?_; (with_reducible refine (slices_Contains_int_int.calls _ _ _ _ _ _ _ ?side1 ?side2 A7.out).mono ?_); (case side1 => repeat (first | exact HR0.out | (with_reducible refine Kd.C_alloc ?_ _) | (with_reducible refine Kd.C_drewN ?_ _) | (with_reducible refine Kd.C_drew ?_))); (case side2 => exact HC0.out); rintro e w' ⟨rfl, ⟨nd, rfl⟩⟩; refine ⟨_, rfl, ?_⟩))
     go_loopg [4, 22] k (fun kq v4 v22 w' => ∃ (x4_1 : Int) (x22_1 : Int), v4 = .int .i64 x4_1 ∧ v22 = .int .i64 x22_1 ∧ Aside0 (shape_Size.l0 kq x4_1 l0 (l0.length : Int) x22_1 = some (r1, r2)) ∧ Aside0 (kq ≤ k) ∧ Drawn0 w w')
     case atStart => exact ⟨(1), (0), yS, yS, H', ⟨Nat.le_refl _⟩, by repeat (first | exact Drawn0.refl _ | apply Drawn0.step)⟩
     case round =>
      clear H'
      try clear c2
      try clear c2b0
      try clear c2b1
      try clear p2
      try clear c4
      try clear c5
      try clear c6
      try clear c8
      obtain ⟨x4_1, x22_1, rfl, rfl, HA, HK1, ⟨m1, rfl⟩⟩ := hrel
      cases gk with
      | zero => exact absurd HA.out (by simp [shape_Size.l0])
      | succ k1 =>
       have H := HA.out
       clear HA
       simp only [shape_Size.l0] at H
       by_cases c9 : x22_1 < (l0.length : Int)
       ·rw [if_pos c9] at H
        have c9b0 : decide (x22_1 < (l0.length : Int)) = true := decide_eq_true c9
        clear c9
        by_cases c10 : 0 ≤ x22_1
        ·rw [if_pos c10] at H
         have c10b0 : decide (0 ≤ x22_1) = true := decide_eq_true c10
         clear c10
         by_cases c11 : x22_1 < (l0.length : Int)
         ·rw [if_pos c11] at H
          have c11b0 : decide (x22_1 < (l0.length : Int)) = true := decide_eq_true c11
          clear c11
          by_cases c12 : x4_1 = 0
          ·rw [if_pos c12] at H
           exact absurd H (by simp)
          ·rw [if_neg c12] at H
           have c12b0 := eF c12
           have c12b1 := nT c12
           by_cases c13 : (rd l0 x22_1) > (wrap64 (Int.tdiv (4096 : Int) x4_1))
           ·rw [if_pos c13] at H
            have c13b0 : decide ((wrap64 (Int.tdiv (4096 : Int) x4_1)) < (rd l0 x22_1)) = true := decide_eq_true c13
            clear c13
            simp only [Option.some.injEq, Prod.mk.injEq] at H
            obtain ⟨rfl, rfl⟩ := H
            have p114 : 0 ≤ (x22_1 : Int) := of_decide_eq_true yY
            have q114 : x22_1 < (l0.length : Int) := of_decide_eq_true yY
            obtain ⟨ad114, e114, hx114_0⟩ := Kd.at_int HR0.out x22_1 p114 q114
            cases e114
            replace p114 := eq_true p114
            replace q114 := eq_true q114
            go_wp2
            go_ret2
            exact ⟨yS, by repeat (first | exact Drawn0.refl _ | apply Drawn0.step)⟩
           ·rw [if_neg c13] at H
            have c13b0 : decide ((wrap64 (Int.tdiv (4096 : Int) x4_1)) < (rd l0 x22_1)) = false := decide_eq_false c13
            clear c13
            have H' := am H
            clear H
            have p114 : 0 ≤ (x22_1 : Int) := of_decide_eq_true yY
            have q114 : x22_1 < (l0.length : Int) := of_decide_eq_true yY
            obtain ⟨ad114, e114, hx114_0⟩ := Kd.at_int HR0.out x22_1 p114 q114
            cases e114
            replace p114 := eq_true p114
            replace q114 := eq_true q114
            go_wp2
            go_roundg k1
            case measure => have := HK1.out; omega
            case rel => exact ⟨(wrap64 (x4_1 * (rd l0 x22_1))), (wrap64 (x22_1 + 1)), yS, yS, H', ⟨by have := HK1.out; omega⟩, by repeat (first | exact Drawn0.refl _ | apply Drawn0.step)⟩
         ·rw [if_neg c11] at H
          exact absurd H (by simp)
        ·rw [if_neg c10] at H
         exact absurd H (by simp)
       ·rw [if_neg c9] at H
        have c9b0 : decide (x22_1 < (l0.length : Int)) = false := decide_eq_false c9
        clear c9
        simp only [Option.some.injEq, Prod.mk.injEq] at H
        obtain ⟨rfl, rfl⟩ := H
        go_wp2
        go_ret2
        exact ⟨yS, by repeat (first | exact Drawn0.refl _ | apply Drawn0.step)⟩
def val_May_1.f (a0 : ByteArray) : Option (Bool) := (num_May.f a0).bind fun t115 => (some (!t115))
set_option maxHeartbeats 8000000 in
set_option maxRecDepth 100000 in
theorem val_May_1.calls (a0 : ByteArray) (r : Bool) (w : World) (h : val_May_1.f a0 = some r) :
  Calls Tryd.prog 58 #[.string a0] w fun e w' => e = .returned (.bool r) ∧ Below w.heap.size w w' := by
 have HB := am (Below.refl w.heap.size w)
 unfold val_May_1.f at h
 have H := h
 clear h
 obtain ⟨t115, A2, H⟩ := bO H
 try dsimp only at H
 obtain rfl := Option.some.inj H
 go_enter Tryd.func58, Tryd.ntmps58
 go_wp2_with ((with_reducible refine gC 59 rfl ?_); refine goesL_ (some 4) rfl rfl Tryd.func59 (by kernel_rfl) rfl #[.string a0] rfl yA ?_; (with_reducible refine (num_May.calls _ _ _ A2.out).mono ?_); rintro e w3 ⟨rfl, hb⟩; refine ⟨_, rfl, ?_⟩; replace HB := am (below_step (kL HB) hb); (try clear hb))
 go_ret
 exact ⟨yE, (kL HB)⟩
end Go.Proofs.YthcijldahbalcaaDoor.P
end
section
namespace Go.Proofs.YthcijldahbalcaaDoor.P
open Go.RowKit Go.Proofs.YthcijldahbalcaaDoorW.PrintWords Go.Proofs.YthcijldahbalcaaDoorW.PrintLast Go.Proofs.YthcijldahbalcaaDoorW.PrintMore
attribute [local go_sem] max2_int min2_int max_two min_two max_three min_three max_four min_four   
set_option linter.unusedVariables false
set_option linter.unusedSimpArgs false
def slices_IndexFunc_string_string.l0 : Nat → List ByteArray → Int → Int → Option (Int)
 | 0, _, _, _ => none
 | k + 1, x0, x7, x8 => if x8 < x7 then (if 0 ≤ x8 then (if x8 < (x0.length : Int) then ((val_May_1.f (rdOf ByteArray.empty x0 x8)).bind fun t117 => (if t117 = true then (some x8) else (slices_IndexFunc_string_string.l0 k x0 x7 (wrap64 (x8 + 1))))) else (none)) else (none)) else (some (-1))
def slices_IndexFunc_string_string.f (k : Nat) (l0 : List ByteArray)  : Option (Int) := slices_IndexFunc_string_string.l0 k l0 (l0.length : Int) 0
theorem slices_IndexFunc_string_string.mono_l : ∀ k, (∀ y0 y1 y2, LeO (slices_IndexFunc_string_string.l0 k y0 y1 y2) (slices_IndexFunc_string_string.l0 (k + 1) y0 y1 y2))
 | 0 => fun _ _ _ r h => by simp [slices_IndexFunc_string_string.l0] at h
 | k + 1 => by
  have ih0 := slices_IndexFunc_string_string.mono_l k
  ·intro y0 y1 y2
   unfold slices_IndexFunc_string_string.l0
   with_reducible repeat' first
   | exact ih0 _ _ _
   | exact LeO.refl _
   | exact LeO.none _
   | refine LeO.ite ?_ ?_
   | refine LeO.bind ?_ (fun _ => ?_)
theorem slices_IndexFunc_string_string.mono : ∀ a0 k, LeO (slices_IndexFunc_string_string.f k a0) (slices_IndexFunc_string_string.f (k + 1) a0) := by
 intro a0 k
 have ih0 := slices_IndexFunc_string_string.mono_l k
 unfold slices_IndexFunc_string_string.f
 with_reducible repeat' first
   | exact ih0 _ _ _
   | exact LeO.refl _
   | exact LeO.none _
   | refine LeO.ite ?_ ?_
   | refine LeO.bind ?_ (fun _ => ?_)
set_option maxHeartbeats 8000000 in
set_option maxRecDepth 100000 in
theorem slices_IndexFunc_string_string.calls (k : Nat) (A0 : Option Addr) (c0 : Nat) (l0 : List ByteArray)  (r : Int) (w : World) (hr0 : Kd.C Kd.string w A0 l0.length l0) (hc0 : l0.length ≤ c0) (h : slices_IndexFunc_string_string.f k l0 = some r) :
  Calls Tryd.prog 92 #[.slice A0 l0.length c0, .func (.func 58) #[] #[]] w fun e w' => e = .returned (.int .i64 r) ∧ Below w.heap.size w w' := by
 have HR0 := am hr0
 have HC0 := am hc0
 clear hr0 hc0
 have HB := am (Below.refl w.heap.size w)
 unfold slices_IndexFunc_string_string.f at h
 have H := h
 clear h
 have H' := am H
 clear H
 go_enter Tryd.func92, Tryd.ntmps92
 go_wp2
 go_loopg [8] k (fun kq v8 w' => ∃ (x8_1 : Int), v8 = .int .i64 x8_1 ∧ Aside0 (slices_IndexFunc_string_string.l0 kq l0 (l0.length : Int) x8_1 = some r) ∧ Aside0 (kq ≤ k) ∧ Aside0 (Below w.heap.size w w'))
 case atStart => exact ⟨(0), yS, H', ⟨Nat.le_refl _⟩, ⟨(kL HB)⟩⟩
 case round =>
  clear H'
  try clear p2
  obtain ⟨x8_1, rfl, HA, HK1, HB⟩ := hrel
  cases gk with
  | zero => exact absurd HA.out (by simp [slices_IndexFunc_string_string.l0])
  | succ k1 =>
   have H := HA.out
   clear HA
   simp only [slices_IndexFunc_string_string.l0] at H
   by_cases c3 : x8_1 < (l0.length : Int)
   ·rw [if_pos c3] at H
    have c3b0 : decide (x8_1 < (l0.length : Int)) = true := decide_eq_true c3
    clear c3
    by_cases c4 : 0 ≤ x8_1
    ·rw [if_pos c4] at H
     have c4b0 : decide (0 ≤ x8_1) = true := decide_eq_true c4
     clear c4
     by_cases c5 : x8_1 < (l0.length : Int)
     ·rw [if_pos c5] at H
      have c5b0 : decide (x8_1 < (l0.length : Int)) = true := decide_eq_true c5
      clear c5
      obtain ⟨t117, A6, H⟩ := bO H
      try dsimp only at H
      by_cases c7 : t117 = true
      ·subst c7
       rw [if_pos rfl] at H
       obtain rfl := Option.some.inj H
       have p116 : 0 ≤ (x8_1 : Int) := of_decide_eq_true yY
       have q116 : x8_1 < (l0.length : Int) := of_decide_eq_true yY
       obtain ⟨ad116, e116, hx116_0⟩ := Kd.at_string HR0.out x8_1 p116 q116
       cases e116
       replace hx116_0 := (HB.out.cell (World.block_lt_of_cell? w _ hx116_0)).trans hx116_0
       replace p116 := eq_true p116
       replace q116 := eq_true q116
       go_wp2_with ((with_reducible refine gate_calleeT rfl ?_); refine goesLT_ (some 16) rfl rfl Tryd.func58 (by kernel_rfl) rfl #[.string (rdOf ByteArray.empty l0 x8_1)] rfl yA ?_; (with_reducible refine (val_May_1.calls _ _ _ A6.out).mono ?_); rintro e w8 ⟨rfl, hb⟩; refine ⟨_, rfl, ?_⟩; replace HB := am (below_step (kL HB) hb); (try clear hb))
       go_ret
       exact ⟨yE, (kL HB)⟩
      ·replace c7 := Bool.eq_false_iff.mpr c7
       subst c7
       rw [if_neg (show ¬ (false = true) by decide)] at H
       have H' := am H
       clear H
       have p116 : 0 ≤ (x8_1 : Int) := of_decide_eq_true yY
       have q116 : x8_1 < (l0.length : Int) := of_decide_eq_true yY
       obtain ⟨ad116, e116, hx116_0⟩ := Kd.at_string HR0.out x8_1 p116 q116
       cases e116
       replace hx116_0 := (HB.out.cell (World.block_lt_of_cell? w _ hx116_0)).trans hx116_0
       replace p116 := eq_true p116
       replace q116 := eq_true q116
       go_wp2_with ((with_reducible refine gate_calleeT rfl ?_); refine goesLT_ (some 16) rfl rfl Tryd.func58 (by kernel_rfl) rfl #[.string (rdOf ByteArray.empty l0 x8_1)] rfl yA ?_; (with_reducible refine (val_May_1.calls _ _ _ A6.out).mono ?_); rintro e w9 ⟨rfl, hb⟩; refine ⟨_, rfl, ?_⟩; replace HB := am (below_step (kL HB) hb); (try clear hb))
       go_roundg k1
       case measure => have := HK1.out; omega
       case rel => exact ⟨(wrap64 (x8_1 + 1)), yS, H', ⟨by have := HK1.out; omega⟩, ⟨(kL HB)⟩⟩
     ·rw [if_neg c5] at H
      exact absurd H (by simp)
    ·rw [if_neg c4] at H
     exact absurd H (by simp)
   ·rw [if_neg c3] at H
    have c3b0 : decide (x8_1 < (l0.length : Int)) = false := decide_eq_false c3
    clear c3
    obtain rfl := Option.some.inj H
    go_wp2
    go_ret
    exact ⟨yE, (kL HB)⟩
def slices_ContainsFunc_string_string.f (k : Nat) (l0 : List ByteArray)  : Option (Bool) := (slices_IndexFunc_string_string.f k l0).bind fun t118 => (some (decide (t118 ≥ 0)))
theorem slices_ContainsFunc_string_string.mono : ∀ a0 k, LeO (slices_ContainsFunc_string_string.f k a0) (slices_ContainsFunc_string_string.f (k + 1) a0) := by
 intro a0 k
 unfold slices_ContainsFunc_string_string.f
 with_reducible repeat' first
   | exact slices_IndexFunc_string_string.mono _ _
   | exact LeO.refl _
   | exact LeO.none _
   | refine LeO.ite ?_ ?_
   | refine LeO.bind ?_ (fun _ => ?_)
set_option maxHeartbeats 8000000 in
set_option maxRecDepth 100000 in
theorem slices_ContainsFunc_string_string.calls (k : Nat) (A0 : Option Addr) (c0 : Nat) (l0 : List ByteArray)  (r : Bool) (w : World) (hr0 : Kd.C Kd.string w A0 l0.length l0) (hc0 : l0.length ≤ c0) (h : slices_ContainsFunc_string_string.f k l0 = some r) :
  Calls Tryd.prog 57 #[.slice A0 l0.length c0, .func (.func 58) #[] #[]] w fun e w' => e = .returned (.bool r) ∧ Below w.heap.size w w' := by
 have HR0 := am hr0
 have HC0 := am hc0
 clear hr0 hc0
 have HB := am (Below.refl w.heap.size w)
 unfold slices_ContainsFunc_string_string.f at h
 have H := h
 clear h
 obtain ⟨t118, A3, H⟩ := bO H
 try dsimp only at H
 obtain rfl := Option.some.inj H
 go_enter Tryd.func57, Tryd.ntmps57
 go_wp2_with ((with_reducible refine gC 92 rfl ?_); refine goesL_ (some 7) rfl rfl Tryd.func92 (by kernel_rfl) rfl #[.slice A0 l0.length c0, .func (.func 58) #[] #[]] rfl yA ?_; (with_reducible refine (slices_IndexFunc_string_string.calls _ _ _ _ _ _ ?side1 ?side2 A3.out).mono ?_); (case side1 => repeat (first | exact HR0.out | (with_reducible refine Kd.C_alloc ?_ _) | (with_reducible refine Kd.C_drewN ?_ _) | (with_reducible refine Kd.C_drew ?_))); (case side2 => exact HC0.out); rintro e w4 ⟨rfl, hb⟩; refine ⟨_, rfl, ?_⟩; replace HB := am (below_step (kL HB) hb); (try clear hb))
 go_ret
 exact ⟨yE, (kL HB)⟩
def val_May.f (k : Nat) (l0_0 : List Int) (l0_1 : List ByteArray) : Option (Bool) := (shape_Size.f k l0_0).bind fun bt120 => (if bt120.2 = 0 then (if (l0_1.length : Int) = bt120.1 then ((slices_ContainsFunc_string_string.f k l0_1).bind fun t122 => (some (!t122))) else (some false)) else (some false))
theorem val_May.mono : ∀ a0 a1 k, LeO (val_May.f k a0 a1) (val_May.f (k + 1) a0 a1) := by
 intro a0 a1 k
 unfold val_May.f
 with_reducible repeat' first
   | exact shape_Size.mono _ _
   | exact slices_ContainsFunc_string_string.mono _ _
   | exact LeO.refl _
   | exact LeO.none _
   | refine LeO.ite ?_ ?_
   | refine LeO.bind ?_ (fun _ => ?_)
set_option maxHeartbeats 8000000 in
set_option maxRecDepth 100000 in
theorem val_May.calls (k : Nat) (A0_0 : Option Addr) (c0_0 : Nat) (l0_0 : List Int) (A0_1 : Option Addr) (c0_1 : Nat) (l0_1 : List ByteArray) (r : Bool) (w : World) (hr0_0 : Kd.C (Kd.int .i64) w A0_0 l0_0.length l0_0) (hc0_0 : l0_0.length ≤ c0_0) (hr0_1 : Kd.C Kd.string w A0_1 l0_1.length l0_1) (hc0_1 : l0_1.length ≤ c0_1) (h : val_May.f k l0_0 l0_1 = some r) :
  Calls Tryd.prog 21 #[.agg #[.slice A0_0 l0_0.length c0_0, .slice A0_1 l0_1.length c0_1]] w fun e w' => e = .returned (.bool r) ∧ Below w.heap.size w w' := by
 have hu25 := Tryd.underlying25
 have HR0_0 := am hr0_0
 have HC0_0 := am hc0_0
 clear hr0_0 hc0_0
 have HR0_1 := am hr0_1
 have HC0_1 := am hc0_1
 clear hr0_1 hc0_1
 have HB := am (Below.refl w.heap.size w)
 unfold val_May.f at h
 have H := h
 clear h
 obtain ⟨⟨t120, t121⟩, A2, H⟩ := bO H
 try dsimp only at H
 by_cases c3 : t121 = 0
 ·rw [if_pos c3] at H
  have c3b0 := eT c3
  have c3b1 := nF c3
  clear c3
  by_cases c4 : (l0_1.length : Int) = t120
  ·rw [if_pos c4] at H
   have c4b0 := eT c4
   have c4b1 := nF c4
   clear c4
   obtain ⟨t122, A5, H⟩ := bO H
   try dsimp only at H
   obtain rfl := Option.some.inj H
   go_enter Tryd.func21, Tryd.ntmps21
   go_wp2_with (first | ((with_reducible refine gD 1 rfl ?_); (try (refine gate_guard (by rfl) ?_; dsimp only)); refine bx 1 #[.slice A0_0 l0_0.length c0_0, .slice A0_1 l0_1.length c0_1] 25 ?_; intro gb119 hg w6 hbox hb; have BK119 := am hbox; have GW119 := am (geL hg (kL HB)); replace HB := am (below_step (kL HB) hb); have GE119 := GW119; clear hb hbox hg; obtain ⟨hcz7_0, hcz7_1, hfz7_0, hfz7_1⟩ := bk2 BK119.out) | ((with_reducible refine gC 56 rfl ?_); refine goesL_ (some 8) rfl rfl Tryd.func56 (by kernel_rfl) rfl #[.slice A0_0 l0_0.length c0_0] rfl yA ?_; (with_reducible refine (shape_Size.calls _ _ _ _ _ _ _ ?side1 ?side2 A2.out).mono ?_); (case side1 => exact Kd.C_below HR0_0.out (kL HB)); (case side2 => exact HC0_0.out); rintro e w' ⟨rfl, ⟨nd, rfl⟩⟩; refine ⟨_, rfl, ?_⟩) | (go_at_call 57; (with_reducible refine (slices_ContainsFunc_string_string.calls _ _ _ _ _ _ ?side1 ?side2 A5.out).mono ?_); (case side1 => repeat (first | exact (Kd.C_below HR0_1.out (kL HB)) | (with_reducible refine Kd.C_alloc ?_ _) | (with_reducible refine Kd.C_drewN ?_ _) | (with_reducible refine Kd.C_drew ?_))); (case side2 => exact HC0_1.out); rintro e w8 ⟨rfl, hb⟩; replace BK119 := am (bB (kB BK119) hb); replace HB := am (below_step (kL HB) hb)))
   go_ret
   exact ⟨yE, (kL HB)⟩
  ·rw [if_neg c4] at H
   have c4b0 := eF c4
   have c4b1 := nT c4
   obtain rfl := Option.some.inj H
   go_enter Tryd.func21, Tryd.ntmps21
   go_wp2_with (first | ((with_reducible refine gD 1 rfl ?_); (try (refine gate_guard (by rfl) ?_; dsimp only)); refine bx 1 #[.slice A0_0 l0_0.length c0_0, .slice A0_1 l0_1.length c0_1] 25 ?_; intro gb119 hg w9 hbox hb; have BK119 := am hbox; have GW119 := am (geL hg (kL HB)); replace HB := am (below_step (kL HB) hb); have GE119 := GW119; clear hb hbox hg; obtain ⟨hcz10_0, hcz10_1, hfz10_0, hfz10_1⟩ := bk2 BK119.out) | ((with_reducible refine gC 56 rfl ?_); refine goesL_ (some 8) rfl rfl Tryd.func56 (by kernel_rfl) rfl #[.slice A0_0 l0_0.length c0_0] rfl yA ?_; (with_reducible refine (shape_Size.calls _ _ _ _ _ _ _ ?side1 ?side2 A2.out).mono ?_); (case side1 => exact Kd.C_below HR0_0.out (kL HB)); (case side2 => exact HC0_0.out); rintro e w' ⟨rfl, ⟨nd, rfl⟩⟩; refine ⟨_, rfl, ?_⟩))
   go_ret
   exact ⟨yE, (kL HB)⟩
 ·rw [if_neg c3] at H
  have c3b0 := eF c3
  have c3b1 := nT c3
  obtain rfl := Option.some.inj H
  go_enter Tryd.func21, Tryd.ntmps21
  go_wp2_with (first | ((with_reducible refine gD 1 rfl ?_); (try (refine gate_guard (by rfl) ?_; dsimp only)); refine bx 1 #[.slice A0_0 l0_0.length c0_0, .slice A0_1 l0_1.length c0_1] 25 ?_; intro gb119 hg w11 hbox hb; have BK119 := am hbox; have GW119 := am (geL hg (kL HB)); replace HB := am (below_step (kL HB) hb); have GE119 := GW119; clear hb hbox hg; obtain ⟨hcz12_0, hcz12_1, hfz12_0, hfz12_1⟩ := bk2 BK119.out) | ((with_reducible refine gC 56 rfl ?_); refine goesL_ (some 8) rfl rfl Tryd.func56 (by kernel_rfl) rfl #[.slice A0_0 l0_0.length c0_0] rfl yA ?_; (with_reducible refine (shape_Size.calls _ _ _ _ _ _ _ ?side1 ?side2 A2.out).mono ?_); (case side1 => exact Kd.C_below HR0_0.out (kL HB)); (case side2 => exact HC0_0.out); rintro e w' ⟨rfl, ⟨nd, rfl⟩⟩; refine ⟨_, rfl, ?_⟩))
  go_ret
  exact ⟨yE, (kL HB)⟩
def slices_Max_int_int.l0 : Nat → List Int → Int → Int → Option (Int)
 | 0, _, _, _ => none
 | k + 1, x0, x3, x4 => if x4 < (x0.length : Int) then (if 0 ≤ x4 then (slices_Max_int_int.l0 k x0 (mx x3 (rd x0 x4)) (wrap64 (x4 + 1))) else (none)) else (some x3)
def slices_Max_int_int.f (k : Nat) (l0 : List Int) : Option (Int) := if (l0.length : Int) < 1 then (none) else (if 0 < (l0.length : Int) then (slices_Max_int_int.l0 k l0 (rd l0 0) 1) else (none))
theorem slices_Max_int_int.mono_l : ∀ k, (∀ y0 y1 y2, LeO (slices_Max_int_int.l0 k y0 y1 y2) (slices_Max_int_int.l0 (k + 1) y0 y1 y2))
 | 0 => fun _ _ _ r h => by simp [slices_Max_int_int.l0] at h
 | k + 1 => by
  have ih0 := slices_Max_int_int.mono_l k
  ·intro y0 y1 y2
   unfold slices_Max_int_int.l0
   with_reducible repeat' first
   | exact ih0 _ _ _
   | exact LeO.refl _
   | exact LeO.none _
   | refine LeO.ite ?_ ?_
   | refine LeO.bind ?_ (fun _ => ?_)
theorem slices_Max_int_int.mono : ∀ a0 k, LeO (slices_Max_int_int.f k a0) (slices_Max_int_int.f (k + 1) a0) := by
 intro a0 k
 have ih0 := slices_Max_int_int.mono_l k
 unfold slices_Max_int_int.f
 with_reducible repeat' first
   | exact ih0 _ _ _
   | exact LeO.refl _
   | exact LeO.none _
   | refine LeO.ite ?_ ?_
   | refine LeO.bind ?_ (fun _ => ?_)
set_option maxHeartbeats 8000000 in
set_option maxRecDepth 100000 in
theorem slices_Max_int_int.calls (k : Nat) (A0 : Option Addr) (c0 : Nat) (l0 : List Int) (r : Int) (w : World) (hr0 : Kd.C (Kd.int .i64) w A0 l0.length l0) (hc0 : l0.length ≤ c0) (h : slices_Max_int_int.f k l0 = some r) :
  Calls Tryd.prog 86 #[.slice A0 l0.length c0] w fun e w' => e = .returned (.int .i64 r) ∧ Below w.heap.size w w' := by
 have HR0 := am hr0
 have HC0 := am hc0
 clear hr0 hc0
 have HB := am (Below.refl w.heap.size w)
 unfold slices_Max_int_int.f at h
 have H := h
 clear h
 by_cases c2 : (l0.length : Int) < 1
 ·rw [if_pos c2] at H
  exact absurd H (by simp)
 ·rw [if_neg c2] at H
  have c2b0 : decide ((l0.length : Int) < 1) = false := decide_eq_false c2
  have c2b1 : decide (l0.length < 1) = false := decide_eq_false (by omega)
  clear c2
  by_cases c3 : 0 < (l0.length : Int)
  ·rw [if_pos c3] at H
   have c3b0 : decide (0 < (l0.length : Int)) = true := decide_eq_true c3
   have c3b1 : decide (0 < l0.length) = true := decide_eq_true (by omega)
   clear c3
   have H' := am H
   clear H
   have p123 : 0 ≤ (0 : Int) := (by omega)
   have q123 : 0 < (l0.length : Int) := of_decide_eq_true yY
   obtain ⟨ad123, e123, hx123_0⟩ := Kd.at_int HR0.out 0 p123 q123
   cases e123
   have qi123 : (0 < l0.length) = True := eq_true (by omega)
   (try rw [t0] at hx123_0)
   (try rw [Addr.add_zero'] at hx123_0)
   replace p123 := eq_true p123
   replace q123 := eq_true q123
   go_enter Tryd.func86, Tryd.ntmps86
   go_wp2
   go_loopg [3, 4] k (fun kq v3 v4 w' => ∃ (x3_1 : Int) (x4_1 : Int), v3 = .int .i64 x3_1 ∧ v4 = .int .i64 x4_1 ∧ Aside0 (slices_Max_int_int.l0 kq l0 x3_1 x4_1 = some r) ∧ Aside0 (kq ≤ k) ∧ Aside0 (Below w.heap.size w w'))
   case atStart => exact ⟨(rd l0 0), (1), yS, yS, H', ⟨Nat.le_refl _⟩, ⟨(kL HB)⟩⟩
   case round =>
    clear H'
    try clear p1
    try clear q1
    try clear hx1
    try clear qi1
    try clear c2
    try clear c2b0
    try clear c2b1
    try clear p2
    try clear c3
    try clear c3b0
    try clear c3b1
    try clear hx123_0
    try clear p123
    try clear q123
    obtain ⟨x3_1, x4_1, rfl, rfl, HA, HK1, HB⟩ := hrel
    cases gk with
    | zero => exact absurd HA.out (by simp [slices_Max_int_int.l0])
    | succ k1 =>
     have H := HA.out
     clear HA
     simp only [slices_Max_int_int.l0] at H
     by_cases c4 : x4_1 < (l0.length : Int)
     ·rw [if_pos c4] at H
      have c4b0 : decide (x4_1 < (l0.length : Int)) = true := decide_eq_true c4
      clear c4
      by_cases c5 : 0 ≤ x4_1
      ·rw [if_pos c5] at H
       have c5b0 : decide (0 ≤ x4_1) = true := decide_eq_true c5
       clear c5
       obtain ⟨ji6, hji6⟩ : ∃ j_ : Int, (mx x3_1 (rd l0 x4_1)) = j_ := ⟨_, rfl⟩
       replace H : (slices_Max_int_int.l0 k1 l0 ji6 (wrap64 (x4_1 + 1))) = some r := by first | (rw [hji6] at H; exact H) | (simp only [hji6] at H ⊢; exact H)
       have hji6_ : (if x3_1 < (rd l0 x4_1) then (rd l0 x4_1) else x3_1) = ji6 := hji6
       have H' := am H
       clear H
       have p124 : 0 ≤ (x4_1 : Int) := of_decide_eq_true yY
       have q124 : x4_1 < (l0.length : Int) := of_decide_eq_true yY
       obtain ⟨ad124, e124, hx124_0⟩ := Kd.at_int HR0.out x4_1 p124 q124
       obtain rfl : ad123 = ad124 := (by injection e124)
       replace hx124_0 := (HB.out.cell (World.block_lt_of_cell? w _ hx124_0)).trans hx124_0
       replace p124 := eq_true p124
       replace q124 := eq_true q124
       go_wp2
       go_roundg k1
       case measure => have := HK1.out; omega
       case rel => exact ⟨(ji6), (wrap64 (x4_1 + 1)), (by first | rfl | (simp; done) | (simp only [← hji6] <;> (first | rfl | simp)) | (simp [*]; done)), yS, H', ⟨by have := HK1.out; omega⟩, ⟨(kL HB)⟩⟩
      ·rw [if_neg c5] at H
       exact absurd H (by simp)
     ·rw [if_neg c4] at H
      have c4b0 : decide (x4_1 < (l0.length : Int)) = false := decide_eq_false c4
      clear c4
      obtain rfl := Option.some.inj H
      go_wp2
      go_ret
      exact ⟨yE, (kL HB)⟩
  ·rw [if_neg c3] at H
   exact absurd H (by simp)
def width_Max.f (k : Nat) (l0 : List Int) : Option (Int) := if (l0.length : Int) = 0 then (some 8) else ((slices_Max_int_int.f k l0).bind fun t125 => (some t125))
theorem width_Max.mono : ∀ a0 k, LeO (width_Max.f k a0) (width_Max.f (k + 1) a0) := by
 intro a0 k
 unfold width_Max.f
 with_reducible repeat' first
   | exact slices_Max_int_int.mono _ _
   | exact LeO.refl _
   | exact LeO.none _
   | refine LeO.ite ?_ ?_
   | refine LeO.bind ?_ (fun _ => ?_)
set_option maxHeartbeats 8000000 in
set_option maxRecDepth 100000 in
theorem width_Max.calls (k : Nat) (A0 : Option Addr) (c0 : Nat) (l0 : List Int) (r : Int) (w : World) (hr0 : Kd.C (Kd.int .i64) w A0 l0.length l0) (hc0 : l0.length ≤ c0) (h : width_Max.f k l0 = some r) :
  Calls Tryd.prog 53 #[.slice A0 l0.length c0] w fun e w' => e = .returned (.int .i64 r) ∧ Below w.heap.size w w' := by
 have HR0 := am hr0
 have HC0 := am hc0
 clear hr0 hc0
 have HB := am (Below.refl w.heap.size w)
 unfold width_Max.f at h
 have H := h
 clear h
 by_cases c2 : (l0.length : Int) = 0
 ·rw [if_pos c2] at H
  have c2b0 := eT c2
  have c2b1 := nF c2
  clear c2
  obtain rfl := Option.some.inj H
  go_enter Tryd.func53, Tryd.ntmps53
  go_wp2
  go_ret
  exact ⟨yE, (kL HB)⟩
 ·rw [if_neg c2] at H
  have c2b0 := eF c2
  have c2b1 := nT c2
  have c2b2 : ¬ (l0 = []) := fun h_ => c2 (by rw [h_]; rfl)
  obtain ⟨t125, A3, H⟩ := bO H
  try dsimp only at H
  obtain rfl := Option.some.inj H
  go_enter Tryd.func53, Tryd.ntmps53
  go_wp2_with ((with_reducible refine gC 86 rfl ?_); refine goesL_ (some 7) rfl rfl Tryd.func86 (by kernel_rfl) rfl #[.slice A0 l0.length c0] rfl yA ?_; (with_reducible refine (slices_Max_int_int.calls _ _ _ _ _ _ ?side1 ?side2 A3.out).mono ?_); (case side1 => repeat (first | exact HR0.out | (with_reducible refine Kd.C_alloc ?_ _) | (with_reducible refine Kd.C_drewN ?_ _) | (with_reducible refine Kd.C_drew ?_))); (case side2 => exact HC0.out); rintro e w4 ⟨rfl, hb⟩; refine ⟨_, rfl, ?_⟩; replace HB := am (below_step (kL HB) hb); (try clear hb))
  go_ret
  exact ⟨yE, (kL HB)⟩
end Go.Proofs.YthcijldahbalcaaDoor.P
end
section
namespace Go.Proofs.YthcijldahbalcaaDoor.P
open Go.RowKit Go.Proofs.YthcijldahbalcaaDoorW.PrintWords Go.Proofs.YthcijldahbalcaaDoorW.PrintLast Go.Proofs.YthcijldahbalcaaDoorW.PrintMore
set_option linter.unusedVariables false
set_option linter.unusedSimpArgs false
theorem pInt_ok (s : ByteArray) (hs : s.size ≤ 281474976710656) (v : Int) (h : Lib.parseIntB 64 s.data.toList = .ok v) (w : World) :
  Calls Tryd.prog 96 #[.string s, .int .i64 10, .int .i64 64] w fun e w' => e = .returned (.tuple #[.int .i64 v, .nilIface]) ∧ Below w.heap.size w w' := by
 refine (Tryd.strconv_ParseInt_10_at64_ok s (by omega) v h w).mono ?_
 rintro e w' ⟨rfl, hw⟩
 refine ⟨rfl, ?_⟩
 rcases hw with rfl | ⟨t, rfl⟩
 ·exact Below.refl _ _
 ·exact Lib.bytesWorld_below _ _ _
theorem pInt_range (s : ByteArray) (hs : s.size ≤ 281474976710656) (h : Lib.parseIntB 64 s.data.toList = .range) (w : World) (hG : Glob w) :
  Calls Tryd.prog 96 #[.string s, .int .i64 10, .int .i64 64] w fun e w' => (∃ N T, e = .returned (.tuple #[.int .i64 (Lib.intSat 64 s.data.toList), .iface T (.pointer (some ⟨N, 0, none⟩))])) ∧ Below w.heap.size w w' := by
 obtain ⟨tp, p, hr⟩ := hG.rng
 refine (Tryd.strconv_ParseInt_10_at64_range_var s hs h tp p w hr).mono ?_
 rintro e w' ⟨N, rfl, _, _, hb⟩
 exact ⟨⟨N, _, rfl⟩, hb⟩
theorem fInt_ok (n : Int) (h0 : -9223372036854775808 ≤ n) (h1 : n ≤ 9223372036854775807) (w : World) (hG : Glob w) :
  Calls Tryd.prog 76 #[.int .i64 n, .int .i64 10] w fun e w' => e = .returned (.string ⟨(Lib.itoa n).toArray⟩) ∧ Below w.heap.size w w' := by
 refine (Tryd.strconv_FormatInt_10 n h0 h1 w hG.tab).mono ?_
 rintro e w' ⟨rfl, k, os, rfl⟩
 exact ⟨rfl, Lib.below_grow _ _ (Nat.le_refl _) _ _⟩
def num_Of.f (a0 : Int) : Option ByteArray := if -9223372036854775808 ≤ a0 ∧ a0 ≤ 9223372036854775807 then some ⟨(Lib.itoa a0).toArray⟩ else none
theorem num_Of.calls (a0 : Int) (r : ByteArray) (w : World) (hG : Glob w) (h : num_Of.f a0 = some r) :
  Calls Tryd.prog 42 #[.int .i64 a0] w fun e w' => e = .returned (.string r) ∧ Below w.heap.size w w' := by
 have HG := am hG
 clear hG
 have HB := am (Below.refl w.heap.size w)
 unfold num_Of.f at h
 by_cases hc : -9223372036854775808 ≤ a0 ∧ a0 ≤ 9223372036854775807
 ·rw [if_pos hc] at h
  obtain rfl := Option.some.inj h
  obtain ⟨h0, h1⟩ := hc
  have H0 := am h0
  have H1 := am h1
  clear h h0 h1
  go_enter Tryd.func42, Tryd.ntmps42
  go_wp2_with ((with_reducible refine gC 76 rfl ?_); refine goesL_ (some 4) rfl rfl Tryd.func76 (by kernel_rfl) rfl #[.int .i64 a0, .int .i64 10] rfl yA ?_; (with_reducible refine (fInt_ok _ H0.out H1.out _ (gG HG (kL HB))).mono ?_); rintro e w5 ⟨rfl, hb⟩; refine ⟨_, rfl, ?_⟩; replace HB := am (below_step (kL HB) hb); (try clear hb))
  go_ret
  exact ⟨rfl, (kL HB)⟩
 ·rw [if_neg hc] at h; cases h
def num_Int.f (a0 : ByteArray) : Option (Int × Bool) := (num_May.f a0).bind fun m => if m = true then (if a0.size ≤ 281474976710656 then (match Lib.parseIntB 64 a0.data.toList with | .ok v => some (v, true) | .range => some (0, false) | _ => none) else none) else some (0, false)
theorem int_no (a0 : ByteArray) (w : World) (hm : num_May.f a0 = some false) :
  Calls Tryd.prog 62 #[.string a0] w fun e w' => e = .returned (.tuple #[.int .i64 0, .bool false]) ∧ Below w.heap.size w w' := by
 have HM := am hm
 clear hm
 have HB := am (Below.refl w.heap.size w)
 go_enter Tryd.func62, Tryd.ntmps62
 go_wp2_with ((with_reducible refine gC 59 rfl ?_); refine goesL_ (some 7) rfl rfl Tryd.func59 (by kernel_rfl) rfl #[.string a0] rfl yA ?_; (with_reducible refine (num_May.calls _ _ _ HM.out).mono ?_); rintro e w5 ⟨rfl, hb⟩; refine ⟨_, rfl, ?_⟩; replace HB := am (below_step (kL HB) hb); (try clear hb))
 go_ret2
 exact ⟨rfl, (kL HB)⟩
theorem int_ok (a0 : ByteArray) (v : Int) (w : World) (hm : num_May.f a0 = some true) (hs : a0.size ≤ 281474976710656) (hp : Lib.parseIntB 64 a0.data.toList = .ok v) :
  Calls Tryd.prog 62 #[.string a0] w fun e w' => e = .returned (.tuple #[.int .i64 v, .bool true]) ∧ Below w.heap.size w w' := by
 have HM := am hm
 have HS := am hs
 have HP := am hp
 clear hm hs hp
 have HB := am (Below.refl w.heap.size w)
 go_enter Tryd.func62, Tryd.ntmps62
 go_wp2_with (first | ((with_reducible refine gC 59 rfl ?_); refine goesL_ (some 7) rfl rfl Tryd.func59 (by kernel_rfl) rfl #[.string a0] rfl yA ?_; (with_reducible refine (num_May.calls _ _ _ HM.out).mono ?_); rintro e w5 ⟨rfl, hb⟩; refine ⟨_, rfl, ?_⟩; replace HB := am (below_step (kL HB) hb); (try clear hb)) | ((with_reducible refine gC 96 rfl ?_); refine goesL_ (some 11) rfl rfl Tryd.func96 (by kernel_rfl) rfl #[.string a0, .int .i64 10, .int .i64 64] rfl yA ?_; (with_reducible refine (pInt_ok _ HS.out _ HP.out _).mono ?_); rintro e w6 ⟨rfl, hb⟩; refine ⟨_, rfl, ?_⟩; replace HB := am (below_step (kL HB) hb); (try clear hb)))
 go_ret2
 exact ⟨rfl, (kL HB)⟩
theorem int_range (a0 : ByteArray) (w : World) (hG : Glob w) (hm : num_May.f a0 = some true) (hs : a0.size ≤ 281474976710656) (hp : Lib.parseIntB 64 a0.data.toList = .range) :
  Calls Tryd.prog 62 #[.string a0] w fun e w' => e = .returned (.tuple #[.int .i64 0, .bool false]) ∧ Below w.heap.size w w' := by
 have HG := am hG
 have HM := am hm
 have HS := am hs
 have HP := am hp
 clear hm hs hp hG
 have HB := am (Below.refl w.heap.size w)
 go_enter Tryd.func62, Tryd.ntmps62
 go_wp2_with (first | ((with_reducible refine gC 59 rfl ?_); refine goesL_ (some 7) rfl rfl Tryd.func59 (by kernel_rfl) rfl #[.string a0] rfl yA ?_; (with_reducible refine (num_May.calls _ _ _ HM.out).mono ?_); rintro e w5 ⟨rfl, hb⟩; refine ⟨_, rfl, ?_⟩; replace HB := am (below_step (kL HB) hb); (try clear hb)) | ((with_reducible refine gC 96 rfl ?_); refine goesL_ (some 11) rfl rfl Tryd.func96 (by kernel_rfl) rfl #[.string a0, .int .i64 10, .int .i64 64] rfl yA ?_; (with_reducible refine (pInt_range _ HS.out HP.out _ (gG HG (kL HB))).mono ?_); rintro e w6 ⟨⟨N, T, rfl⟩, hb⟩; refine ⟨_, rfl, ?_⟩; replace HB := am (below_step (kL HB) hb); (try clear hb)))
 go_ret2
 exact ⟨rfl, (kL HB)⟩
theorem num_Int.calls (a0 : ByteArray) (r1 : Int) (r2 : Bool) (w : World) (hG : Glob w) (h : num_Int.f a0 = some (r1, r2)) :
  Calls Tryd.prog 62 #[.string a0] w fun e w' => e = .returned (.tuple #[.int .i64 r1, .bool r2]) ∧ Below w.heap.size w w' := by
 unfold num_Int.f at h
 obtain ⟨m, hm, h⟩ := Option.bind_eq_some_iff.mp h
 cases m with
 | false =>
  rw [if_neg (by decide)] at h
  injection h with h
  injection h with h1 h2
  subst h1 h2
  exact int_no a0 w hm
 | true =>
  rw [if_pos rfl] at h
  by_cases hs : a0.size ≤ 281474976710656
  ·rw [if_pos hs] at h
   cases hp : Lib.parseIntB 64 a0.data.toList with
   | ok v =>
    rw [hp] at h
    injection h with h
    injection h with h1 h2
    subst h1 h2
    exact int_ok a0 _ w hm hs hp
   | range =>
    rw [hp] at h
    injection h with h
    injection h with h1 h2
    subst h1 h2
    exact int_range a0 w hG hm hs hp
   | _ => rw [hp] at h; cases h
  ·rw [if_neg hs] at h; cases h
set_option maxHeartbeats 8000000 in
set_option maxRecDepth 100000 in
theorem widths_calls (w : World) : Calls Tryd.prog 85 #[] w fun e w' => e = .returned (.agg #[.int .i64 8, .int .i64 16, .int .i64 32, .int .i64 64, .int .i64 128]) ∧ Below w.heap.size w w' := by
 have hu := Tryd.underlying105
 have HB := am (Below.refl w.heap.size w)
 go_enter Tryd.func85, Tryd.ntmps85
 go_wp2_with ((with_reducible refine gD 0 rfl ?_); refine bx 0 #[.int .i64 0, .int .i64 0, .int .i64 0, .int .i64 0, .int .i64 0] 105 ?_; intro gb hg w2 hbox hb; have BK := am hbox; have GW := am (geL hg (kL HB)); replace HB := am (below_step (kL HB) hb); have GE := GW; clear hb hbox hg; obtain ⟨z0, z1, z2, z3, z4, f0, f1, f2, f3, f4⟩ := bk5 BK.out)
 refine bodyPost_ret (results_cell_row rfl _ _ gb 105 #[.int .i64 8, .int .i64 16, .int .i64 32, .int .i64 64, .int .i64 128] (0, 0) _ rfl (kM BK) Tryd.underlying105 rfl (by kernel_rfl)) rfl ?_
 exact ⟨rfl, (kL HB)⟩
theorem ix0 (w : World) : (Instr.index 105 (.agg #[.int .i64 8, .int .i64 16, .int .i64 32, .int .i64 64, .int .i64 128]) (.int .i64 0)).run Tryd.prog w = .ok (.int .i64 8) w := by kernel_rfl
theorem ix1 (w : World) : (Instr.index 105 (.agg #[.int .i64 8, .int .i64 16, .int .i64 32, .int .i64 64, .int .i64 128]) (.int .i64 1)).run Tryd.prog w = .ok (.int .i64 16) w := by kernel_rfl
theorem ix2 (w : World) : (Instr.index 105 (.agg #[.int .i64 8, .int .i64 16, .int .i64 32, .int .i64 64, .int .i64 128]) (.int .i64 2)).run Tryd.prog w = .ok (.int .i64 32) w := by kernel_rfl
theorem ix3 (w : World) : (Instr.index 105 (.agg #[.int .i64 8, .int .i64 16, .int .i64 32, .int .i64 64, .int .i64 128]) (.int .i64 3)).run Tryd.prog w = .ok (.int .i64 64) w := by kernel_rfl
theorem ix4 (w : World) : (Instr.index 105 (.agg #[.int .i64 8, .int .i64 16, .int .i64 32, .int .i64 64, .int .i64 128]) (.int .i64 4)).run Tryd.prog w = .ok (.int .i64 128) w := by kernel_rfl
attribute [local go_sem] ix0 ix1 ix2 ix3 ix4
def ofC (x : Int) : Nat → Int → Option Int
 | 0, _ => none
 | k + 1, i =>
  if i = 0 then (width_Fits.f 10 x 8).bind fun b => if b = true then some 8 else ofC x k 1
  else if i = 1 then (width_Fits.f 10 x 16).bind fun b => if b = true then some 16 else ofC x k 2
  else if i = 2 then (width_Fits.f 10 x 32).bind fun b => if b = true then some 32 else ofC x k 3
  else if i = 3 then (width_Fits.f 10 x 64).bind fun b => if b = true then some 64 else ofC x k 4
  else if i = 4 then (width_Fits.f 10 x 128).bind fun b => if b = true then some 128 else ofC x k 5
  else if i = 5 then some 128
  else none
def width_Of.f (a0 : ByteArray) : Option Int := (num_Int.f a0).bind fun p => if p.2 = true then ofC p.1 7 0 else some 128
set_option maxHeartbeats 8000000 in
set_option maxRecDepth 100000 in
theorem of_no (a0 : ByteArray) (x : Int) (w : World) (hG : Glob w) (hp : num_Int.f a0 = some (x, false)) :
  Calls Tryd.prog 52 #[.string a0] w fun e w' => e = .returned (.int .i64 128) ∧ Below w.heap.size w w' := by
 have HG := am hG
 have HP := am hp
 clear hG hp
 have HB := am (Below.refl w.heap.size w)
 go_enter Tryd.func52, Tryd.ntmps52
 go_wp2_with ((with_reducible refine gC 62 rfl ?_); refine goesL_ (some 9) rfl rfl Tryd.func62 (by kernel_rfl) rfl #[.string a0] rfl yA ?_; (with_reducible refine (num_Int.calls _ _ _ _ (gG HG (kL HB)) HP.out).mono ?_); rintro e w5 ⟨rfl, hb⟩; refine ⟨_, rfl, ?_⟩; replace HB := am (below_step (kL HB) hb); (try clear hb))
 go_ret
 exact ⟨rfl, (kL HB)⟩
set_option maxHeartbeats 8000000 in
set_option maxRecDepth 100000 in
theorem of_yes (a0 : ByteArray) (x r : Int) (w : World) (hG : Glob w) (hp : num_Int.f a0 = some (x, true)) (hr : ofC x 7 0 = some r) :
  Calls Tryd.prog 52 #[.string a0] w fun e w' => e = .returned (.int .i64 r) ∧ Below w.heap.size w w' := by
 have HG := am hG
 have HP := am hp
 have H' := am hr
 clear hG hp hr
 have HB := am (Below.refl w.heap.size w)
 obtain ⟨K, hK⟩ : ∃ K : Nat, 7 ≤ K := ⟨7, Nat.le_refl _⟩
 have HKK := am hK
 clear hK
 go_enter Tryd.func52, Tryd.ntmps52
 go_wp2_with (first | ((with_reducible refine gC 62 rfl ?_); refine goesL_ (some 9) rfl rfl Tryd.func62 (by kernel_rfl) rfl #[.string a0] rfl yA ?_; (with_reducible refine (num_Int.calls _ _ _ _ (gG HG (kL HB)) HP.out).mono ?_); rintro e w5 ⟨rfl, hb⟩; refine ⟨_, rfl, ?_⟩; replace HB := am (below_step (kL HB) hb); (try clear hb)) | ((with_reducible refine gC 85 rfl ?_); refine goesL_ (some 14) rfl rfl Tryd.func85 (by kernel_rfl) rfl #[] rfl yA ?_; (with_reducible refine (widths_calls _).mono ?_); rintro e w6 ⟨rfl, hb⟩; refine ⟨_, rfl, ?_⟩; replace HB := am (below_step (kL HB) hb); (try clear hb)))
 go_loopg [15] K (fun kq v15 w' => ∃ (i : Int), v15 = .int .i64 i ∧ Aside0 (∃ q, q ≤ kq ∧ ofC x q i = some r) ∧ Aside0 (kq ≤ K) ∧ Aside0 (Below w.heap.size w w'))
 case atStart => exact ⟨0, yS, ⟨7, HKK.out, H'.out⟩, ⟨Nat.le_refl _⟩, ⟨(kL HB)⟩⟩
 case round =>
  clear H'
  obtain ⟨i, rfl, HA, HK1, HB⟩ := hrel
  obtain ⟨q, hq, H⟩ := HA.out
  clear HA
  cases q with
  | zero => exact absurd H (by simp [ofC])
  | succ q =>
   obtain ⟨k1, rfl⟩ : ∃ j, gk = j + 1 := ⟨gk - 1, by omega⟩
   have HQ := am (show q ≤ k1 by omega)
   clear hq
   simp only [ofC] at H
   by_cases c0 : i = 0
   ·subst c0
    rw [if_pos rfl] at H
    obtain ⟨b, A, H⟩ := bO H
    cases b with
    | true =>
     rw [if_pos rfl] at H
     obtain rfl := Option.some.inj H
     go_wp2_with ((with_reducible refine gC 73 rfl ?_); refine goesL_ (some 20) rfl rfl Tryd.func73 (by kernel_rfl) rfl #[.int .i64 x, .int .i64 8] rfl yA ?_; (with_reducible refine (width_Fits.calls _ _ _ _ _ A.out).mono ?_); rintro e w' ⟨rfl, ⟨nd, rfl⟩⟩; refine ⟨_, rfl, ?_⟩)
     go_ret
     exact ⟨rfl, (kL HB)⟩
    | false =>
     rw [if_neg (by decide)] at H
     have H' := am H
     clear H
     go_wp2_with ((with_reducible refine gC 73 rfl ?_); refine goesL_ (some 20) rfl rfl Tryd.func73 (by kernel_rfl) rfl #[.int .i64 x, .int .i64 8] rfl yA ?_; (with_reducible refine (width_Fits.calls _ _ _ _ _ A.out).mono ?_); rintro e w' ⟨rfl, ⟨nd, rfl⟩⟩; refine ⟨_, rfl, ?_⟩)
     go_roundg k1
     case measure => have := HK1.out; omega
     case rel => exact ⟨1, yS, ⟨q, HQ.out, H'.out⟩, ⟨by have := HK1.out; omega⟩, ⟨(kL HB)⟩⟩
   rw [if_neg c0] at H
   clear c0
   by_cases c1 : i = 1
   ·subst c1
    rw [if_pos rfl] at H
    obtain ⟨b, A, H⟩ := bO H
    cases b with
    | true =>
     rw [if_pos rfl] at H
     obtain rfl := Option.some.inj H
     go_wp2_with ((with_reducible refine gC 73 rfl ?_); refine goesL_ (some 20) rfl rfl Tryd.func73 (by kernel_rfl) rfl #[.int .i64 x, .int .i64 16] rfl yA ?_; (with_reducible refine (width_Fits.calls _ _ _ _ _ A.out).mono ?_); rintro e w' ⟨rfl, ⟨nd, rfl⟩⟩; refine ⟨_, rfl, ?_⟩)
     go_ret
     exact ⟨rfl, (kL HB)⟩
    | false =>
     rw [if_neg (by decide)] at H
     have H' := am H
     clear H
     go_wp2_with ((with_reducible refine gC 73 rfl ?_); refine goesL_ (some 20) rfl rfl Tryd.func73 (by kernel_rfl) rfl #[.int .i64 x, .int .i64 16] rfl yA ?_; (with_reducible refine (width_Fits.calls _ _ _ _ _ A.out).mono ?_); rintro e w' ⟨rfl, ⟨nd, rfl⟩⟩; refine ⟨_, rfl, ?_⟩)
     go_roundg k1
     case measure => have := HK1.out; omega
     case rel => exact ⟨2, yS, ⟨q, HQ.out, H'.out⟩, ⟨by have := HK1.out; omega⟩, ⟨(kL HB)⟩⟩
   rw [if_neg c1] at H
   clear c1
   by_cases c2 : i = 2
   ·subst c2
    rw [if_pos rfl] at H
    obtain ⟨b, A, H⟩ := bO H
    cases b with
    | true =>
     rw [if_pos rfl] at H
     obtain rfl := Option.some.inj H
     go_wp2_with ((with_reducible refine gC 73 rfl ?_); refine goesL_ (some 20) rfl rfl Tryd.func73 (by kernel_rfl) rfl #[.int .i64 x, .int .i64 32] rfl yA ?_; (with_reducible refine (width_Fits.calls _ _ _ _ _ A.out).mono ?_); rintro e w' ⟨rfl, ⟨nd, rfl⟩⟩; refine ⟨_, rfl, ?_⟩)
     go_ret
     exact ⟨rfl, (kL HB)⟩
    | false =>
     rw [if_neg (by decide)] at H
     have H' := am H
     clear H
     go_wp2_with ((with_reducible refine gC 73 rfl ?_); refine goesL_ (some 20) rfl rfl Tryd.func73 (by kernel_rfl) rfl #[.int .i64 x, .int .i64 32] rfl yA ?_; (with_reducible refine (width_Fits.calls _ _ _ _ _ A.out).mono ?_); rintro e w' ⟨rfl, ⟨nd, rfl⟩⟩; refine ⟨_, rfl, ?_⟩)
     go_roundg k1
     case measure => have := HK1.out; omega
     case rel => exact ⟨3, yS, ⟨q, HQ.out, H'.out⟩, ⟨by have := HK1.out; omega⟩, ⟨(kL HB)⟩⟩
   rw [if_neg c2] at H
   clear c2
   by_cases c3 : i = 3
   ·subst c3
    rw [if_pos rfl] at H
    obtain ⟨b, A, H⟩ := bO H
    cases b with
    | true =>
     rw [if_pos rfl] at H
     obtain rfl := Option.some.inj H
     go_wp2_with ((with_reducible refine gC 73 rfl ?_); refine goesL_ (some 20) rfl rfl Tryd.func73 (by kernel_rfl) rfl #[.int .i64 x, .int .i64 64] rfl yA ?_; (with_reducible refine (width_Fits.calls _ _ _ _ _ A.out).mono ?_); rintro e w' ⟨rfl, ⟨nd, rfl⟩⟩; refine ⟨_, rfl, ?_⟩)
     go_ret
     exact ⟨rfl, (kL HB)⟩
    | false =>
     rw [if_neg (by decide)] at H
     have H' := am H
     clear H
     go_wp2_with ((with_reducible refine gC 73 rfl ?_); refine goesL_ (some 20) rfl rfl Tryd.func73 (by kernel_rfl) rfl #[.int .i64 x, .int .i64 64] rfl yA ?_; (with_reducible refine (width_Fits.calls _ _ _ _ _ A.out).mono ?_); rintro e w' ⟨rfl, ⟨nd, rfl⟩⟩; refine ⟨_, rfl, ?_⟩)
     go_roundg k1
     case measure => have := HK1.out; omega
     case rel => exact ⟨4, yS, ⟨q, HQ.out, H'.out⟩, ⟨by have := HK1.out; omega⟩, ⟨(kL HB)⟩⟩
   rw [if_neg c3] at H
   clear c3
   by_cases c4 : i = 4
   ·subst c4
    rw [if_pos rfl] at H
    obtain ⟨b, A, H⟩ := bO H
    cases b with
    | true =>
     rw [if_pos rfl] at H
     obtain rfl := Option.some.inj H
     go_wp2_with ((with_reducible refine gC 73 rfl ?_); refine goesL_ (some 20) rfl rfl Tryd.func73 (by kernel_rfl) rfl #[.int .i64 x, .int .i64 128] rfl yA ?_; (with_reducible refine (width_Fits.calls _ _ _ _ _ A.out).mono ?_); rintro e w' ⟨rfl, ⟨nd, rfl⟩⟩; refine ⟨_, rfl, ?_⟩)
     go_ret
     exact ⟨rfl, (kL HB)⟩
    | false =>
     rw [if_neg (by decide)] at H
     have H' := am H
     clear H
     go_wp2_with ((with_reducible refine gC 73 rfl ?_); refine goesL_ (some 20) rfl rfl Tryd.func73 (by kernel_rfl) rfl #[.int .i64 x, .int .i64 128] rfl yA ?_; (with_reducible refine (width_Fits.calls _ _ _ _ _ A.out).mono ?_); rintro e w' ⟨rfl, ⟨nd, rfl⟩⟩; refine ⟨_, rfl, ?_⟩)
     go_roundg k1
     case measure => have := HK1.out; omega
     case rel => exact ⟨5, yS, ⟨q, HQ.out, H'.out⟩, ⟨by have := HK1.out; omega⟩, ⟨(kL HB)⟩⟩
   rw [if_neg c4] at H
   clear c4
   by_cases c5 : i = 5
   ·subst c5
    rw [if_pos rfl] at H
    obtain rfl := Option.some.inj H
    go_wp2
    go_ret
    exact ⟨rfl, (kL HB)⟩
   ·rw [if_neg c5] at H; cases H
theorem width_Of.calls (a0 : ByteArray) (r : Int) (w : World) (hG : Glob w) (h : width_Of.f a0 = some r) :
  Calls Tryd.prog 52 #[.string a0] w fun e w' => e = .returned (.int .i64 r) ∧ Below w.heap.size w w' := by
 unfold width_Of.f at h
 obtain ⟨⟨x, b⟩, hp, h⟩ := Option.bind_eq_some_iff.mp h
 cases b with
 | false =>
  rw [if_neg (show ¬ ((x, false).2 = true) from fun e => by cases e)] at h
  obtain rfl := Option.some.inj h
  exact of_no a0 x w hG hp
 | true =>
  rw [if_pos rfl] at h
  exact of_yes a0 x r w hG hp h
end Go.Proofs.YthcijldahbalcaaDoor.P
end
section
namespace Go.Proofs.YthcijldahbalcaaDoor.P
open Go.RowKit Go.Proofs.YthcijldahbalcaaDoorW.PrintWords Go.Proofs.YthcijldahbalcaaDoorW.PrintLast Go.Proofs.YthcijldahbalcaaDoorW.PrintMore
attribute [local go_sem] max2_int min2_int max_two min_two max_three min_three max_four min_four   
set_option linter.unusedVariables false
set_option linter.unusedSimpArgs false
def val_Width.l0 : Nat → List Int → List ByteArray → Int → Int → Option (Int)
 | 0, _, _, _, _ => none
 | k + 1, x3, x7, x8, x9 => if x9 < x8 then (if 0 ≤ x9 then (if x9 < (x7.length : Int) then ((width_Of.f (rdOf ByteArray.empty x7 x9)).bind fun t128 => (if x3.length < 17592186044416 then (val_Width.l0 k (x3 ++ [t128]) x7 x8 (wrap64 (x9 + 1))) else (none))) else (none)) else (none)) else ((width_Max.f k x3).bind fun t132 => (some t132))
def val_Width.f (k : Nat) (l0_0 : List Int) (l0_1 : List ByteArray) : Option (Int) := val_Width.l0 k ([] : List Int) l0_1 (l0_1.length : Int) 0
theorem val_Width.mono_l : ∀ k, (∀ y0 y1 y2 y3, LeO (val_Width.l0 k y0 y1 y2 y3) (val_Width.l0 (k + 1) y0 y1 y2 y3))
 | 0 => fun _ _ _ _ r h => by simp [val_Width.l0] at h
 | k + 1 => by
  have ih0 := val_Width.mono_l k
  ·intro y0 y1 y2 y3
   unfold val_Width.l0
   with_reducible repeat' first
   | exact ih0 _ _ _ _
   | exact width_Max.mono _ _
   | exact LeO.refl _
   | exact LeO.none _
   | refine LeO.ite ?_ ?_
   | refine LeO.bind ?_ (fun _ => ?_)
theorem val_Width.mono : ∀ a0 a1 k, LeO (val_Width.f k a0 a1) (val_Width.f (k + 1) a0 a1) := by
 intro a0 a1 k
 have ih0 := val_Width.mono_l k
 unfold val_Width.f
 with_reducible repeat' first
   | exact ih0 _ _ _ _
   | exact width_Max.mono _ _
   | exact LeO.refl _
   | exact LeO.none _
   | refine LeO.ite ?_ ?_
   | refine LeO.bind ?_ (fun _ => ?_)
set_option maxHeartbeats 8000000 in
set_option maxRecDepth 100000 in
theorem val_Width.calls (k : Nat) (A0_0 : Option Addr) (c0_0 : Nat) (l0_0 : List Int) (A0_1 : Option Addr) (c0_1 : Nat) (l0_1 : List ByteArray) (r : Int) (w : World) (hr0_0 : Kd.C (Kd.int .i64) w A0_0 l0_0.length l0_0) (hc0_0 : l0_0.length ≤ c0_0) (hr0_1 : Kd.C Kd.string w A0_1 l0_1.length l0_1) (hc0_1 : l0_1.length ≤ c0_1) (hG : Glob w) (h : val_Width.f k l0_0 l0_1 = some r) :
  Calls Tryd.prog 18 #[.agg #[.slice A0_0 l0_0.length c0_0, .slice A0_1 l0_1.length c0_1]] w fun e w' => e = .returned (.int .i64 r) ∧ Below w.heap.size w w' := by
 have HG := am hG
 clear hG
 have hu25 := Tryd.underlying25
 have HR0_0 := am hr0_0
 have HC0_0 := am hc0_0
 clear hr0_0 hc0_0
 have HR0_1 := am hr0_1
 have HC0_1 := am hc0_1
 clear hr0_1 hc0_1
 have HB := am (Below.refl w.heap.size w)
 unfold val_Width.f at h
 have H := h
 clear h
 have H' := am H
 clear H
 go_enter Tryd.func18, Tryd.ntmps18
 go_wp2_with ((with_reducible refine gD 1 rfl ?_); refine bx 1 #[.slice A0_0 l0_0.length c0_0, .slice A0_1 l0_1.length c0_1] 25 ?_; intro gb126 hg w2 hbox hb; have BK126 := am hbox; have GW126 := am (geL hg (kL HB)); replace HB := am (below_step (kL HB) hb); have GE126 := GW126; clear hb hbox hg; obtain ⟨hcz3_0, hcz3_1, hfz3_0, hfz3_1⟩ := bk2 BK126.out)
 go_loopg [3, 9] k (fun kq v3 v9 w' => ∃ (x3_1 : List Int) (x9_1 : Int), v9 = .int .i64 x9_1 ∧ Aside0 (val_Width.l0 kq x3_1 l0_1 (l0_1.length : Int) x9_1 = some r) ∧ Aside0 (kq ≤ k) ∧ Aside0 (Kd.R (Kd.int .i64) 3 w' w.heap.size (fun _ => True) v3 x3_1) ∧ Aside0 (w'.heap[gb126]? = some (.cells #[(.slice A0_0 l0_0.length c0_0), (.slice A0_1 l0_1.length c0_1)] 25 (0, 0))) ∧ Aside0 (Below w.heap.size w w'))
 case atStart => exact ⟨(([] : List Int)), (0), yS, H', ⟨Nat.le_refl _⟩, ⟨by first | exact Kd.R_nil _ _ _ _ _ | exact Kd.N_nil _ _ _ _ _ | exact Kd.V_nil _ _ _ _ _ | exact Kd.Q_nil _ _ _ _ _ | exact Kd.S_nil _ _ _ _ _⟩, ⟨kB BK126⟩, ⟨(kL HB)⟩⟩
 case round =>
  clear H'
  try clear c1
  try clear p2
  try clear hcz3_0 hcz3_1 hfz3_0 hfz3_1
  obtain ⟨x3_1, x9_1, rfl, HA, HK1, HO_3, BK126, HB⟩ := hrel
  cases gk with
  | zero => exact absurd HA.out (by simp [val_Width.l0])
  | succ k1 =>
   have H := HA.out
   clear HA
   simp only [val_Width.l0] at H
   by_cases c4 : x9_1 < (l0_1.length : Int)
   ·rw [if_pos c4] at H
    have c4b0 : decide (x9_1 < (l0_1.length : Int)) = true := decide_eq_true c4
    clear c4
    by_cases c5 : 0 ≤ x9_1
    ·rw [if_pos c5] at H
     have c5b0 : decide (0 ≤ x9_1) = true := decide_eq_true c5
     clear c5
     by_cases c6 : x9_1 < (l0_1.length : Int)
     ·rw [if_pos c6] at H
      have c6b0 : decide (x9_1 < (l0_1.length : Int)) = true := decide_eq_true c6
      clear c6
      obtain ⟨t128, A7, H⟩ := bO H
      try dsimp only at H
      by_cases c8 : x3_1.length < 17592186044416
      ·rw [if_pos c8] at H
       have LMc8 := am c8
       clear c8
       obtain ⟨y129, hy129⟩ : ∃ y_ : List Int, y_ = (x3_1 ++ [t128]) := ⟨_, rfl⟩
       replace H : (val_Width.l0 k1 y129 l0_1 (l0_1.length : Int) (wrap64 (x9_1 + 1))) = some r := by first | (rw [hy129]; with_reducible exact H) | (have H2_ := (Option.bind_some _ _).symm.trans H; rw [hy129]; with_reducible exact H2_) | (have H2_ := (Option.bind_some _ _).symm.trans H; with_reducible exact H2_) | with_reducible exact H | (rw [hy129]; exact H) | exact H
       have Ny129 := am hy129
       clear hy129
       have H' := am H
       clear H
       have p127 : 0 ≤ (x9_1 : Int) := of_decide_eq_true yY
       have q127 : x9_1 < (l0_1.length : Int) := of_decide_eq_true yY
       obtain ⟨ad127, e127, hx127_0⟩ := Kd.at_string HR0_1.out x9_1 p127 q127
       cases e127
       replace hx127_0 := (HB.out.cell (World.block_lt_of_cell? w _ hx127_0)).trans hx127_0
       replace p127 := eq_true p127
       replace q127 := eq_true q127
       go_wp2_with (first | ((with_reducible refine gC 52 rfl ?_); refine goesL_ (some 15) rfl rfl Tryd.func52 (by kernel_rfl) rfl #[.string (rdOf ByteArray.empty l0_1 x9_1)] rfl yA ?_; (with_reducible refine (width_Of.calls _ _ _ (gG HG (kL HB)) A7.out).mono ?_); rintro e w9 ⟨rfl, hb⟩; refine ⟨_, rfl, ?_⟩; replace HO_3 := am (Kd.R_below (rB HO_3) hb); replace BK126 := am (bB (kB BK126) hb); replace HB := am (below_step (kL HB) hb); (try clear hb)) | ((with_reducible refine gate_builtin (b := .append) (xs := #[.tmp 13, .tmp 16]) rfl ?_); at_builtin; refine Kd.R_append (Kd.int .i64) (w0 := w) w.heap.size rfl (.tmp 13) (.tmp 16) 22 3 (.int .i64 0) 8 rfl Tryd.underlying22 info3 rfl (by decide) (by omega) u3 x3_1 t128 [.int .i64 t128] (fun _ => True) (fun _ => False) rfl rfl ?aP (fun _ hk => hk.elim) ?aF ?aO ?aB ?aS ?aL ?_; (case aP => exact rfl); (case aB => exact (kL HB)); (case aF => exact (fun _ _ => trivial)); (case aO => exact (rB HO_3)); (case aS => exact (below_size (kL HB))); (case aL => have := LMc8.out; omega); intro v130 w10 ho hb hg hat; rw [← Ny129.out] at ho; have n0_ := am (blk_grown (g := gb126) (o := .cells #[.slice A0_0 l0_0.length c0_0, .slice (some ad127) l0_1.length c0_1] 25 (0, 0)) (kB BK126) hg (Kd.R_ne HO_3.out BK126.out (by decide))); have n1_ := am hb; have n2_ := am (ho); clear BK126; clear HB; clear HO_3; have BK126 := n0_; have HB := n1_; have HO131 := n2_; clear n0_ n1_ n2_; clear ho hb hg hat))
       go_roundg k1
       case measure => have := HK1.out; omega
       case rel => exact ⟨(y129), (wrap64 (x9_1 + 1)), yS, H', ⟨by have := HK1.out; omega⟩, ⟨rB HO131⟩, ⟨kB BK126⟩, ⟨(kL HB)⟩⟩
      ·rw [if_neg c8] at H
       exact absurd H (by simp)
     ·rw [if_neg c6] at H
      exact absurd H (by simp)
    ·rw [if_neg c5] at H
     exact absurd H (by simp)
   ·rw [if_neg c4] at H
    have c4b0 : decide (x9_1 < (l0_1.length : Int)) = false := decide_eq_false c4
    clear c4
    obtain ⟨t132, A11, H⟩ := bO H
    try dsimp only at H
    obtain rfl := Option.some.inj H
    obtain ⟨Ao12, co12, eo12⟩ := Kd.R_slice HO_3.out
    subst eo12
    go_wp2_with ((with_reducible refine gC 53 rfl ?_); refine goesL_ (some 20) rfl rfl Tryd.func53 (by kernel_rfl) rfl #[.slice Ao12 x3_1.length co12] rfl yA ?_; (with_reducible refine (width_Max.calls _ _ _ _ _ _ ?side1 ?side2 A11.out).mono ?_); (case side1 => exact (Kd.R_reads' (rB HO_3)).2.2); (case side2 => exact (Kd.R_reads' HO_3.out).2.1); rintro e w13 ⟨rfl, hb⟩; refine ⟨_, rfl, ?_⟩; replace HO_3 := am (Kd.R_below (rB HO_3) hb); replace BK126 := am (bB (kB BK126) hb); replace HB := am (below_step (kL HB) hb); (try clear hb))
    go_ret
    exact ⟨yE, (kL HB)⟩
end Go.Proofs.YthcijldahbalcaaDoor.P
end
section
namespace Go.Proofs.YthcijldahbalcaaDoor.P
open Go.RowKit Go.Proofs.YthcijldahbalcaaDoorW.PrintWords Go.Proofs.YthcijldahbalcaaDoorW.PrintLast Go.Proofs.YthcijldahbalcaaDoorW.PrintMore
attribute [local go_sem] max2_int min2_int max_two min_two max_three min_three max_four min_four   
set_option linter.unusedVariables false
set_option linter.unusedSimpArgs false
def typed_known.f (k : Nat) (a0 : Int) : Option (Bool) := (slices_Contains_int_int.f k (([8, 16, 32, 64] : List Int)) a0).bind fun t314 => (some t314)
theorem typed_known.mono : ∀ a0 k, LeO (typed_known.f k a0) (typed_known.f (k + 1) a0) := by
 intro a0 k
 unfold typed_known.f
 with_reducible repeat' first
   | exact slices_Contains_int_int.mono _ _ _
   | exact LeO.refl _
   | exact LeO.none _
   | refine LeO.ite ?_ ?_
   | refine LeO.bind ?_ (fun _ => ?_)
set_option maxHeartbeats 8000000 in
set_option maxRecDepth 100000 in
theorem typed_known.calls (k : Nat) (a0 : Int) (r : Bool) (w : World) (h : typed_known.f k a0 = some r) :
  Calls Tryd.prog 61 #[.int .i64 a0] w fun e w' => e = .returned (.bool r) ∧ Below w.heap.size w w' := by
 have HB := am (Below.refl w.heap.size w)
 unfold typed_known.f at h
 have H := h
 clear h
 obtain ⟨y311, hy311⟩ : ∃ y_ : List Int, y_ = (([8, 16, 32, 64] : List Int)) := ⟨_, rfl⟩
 replace H : ((slices_Contains_int_int.f k y311 a0).bind fun t314 => (some t314)) = some r := by first | (rw [hy311]; with_reducible exact H) | (have H2_ := (Option.bind_some _ _).symm.trans H; rw [hy311]; with_reducible exact H2_) | (have H2_ := (Option.bind_some _ _).symm.trans H; with_reducible exact H2_) | with_reducible exact H | (rw [hy311]; exact H) | exact H
 have Ny311 := am hy311
 clear hy311
 obtain ⟨t314, A2, H⟩ := bO H
 try dsimp only at H
 obtain rfl := Option.some.inj H
 go_enter Tryd.func61, Tryd.ntmps61
 go_wp2_with (first | ((with_reducible refine gD 3 rfl ?_); refine Kd.R_lit (Kd.int .i64) _ 3 ?hg (N := 3) ?hd (xs := ([8, 16, 32, 64] : List Int)) (inner := [.int .i64 8, .int .i64 16, .int .i64 32, .int .i64 64]) (ok := fun _ => True) (okp := fun _ => True) ?hr ?hp (fun _ hk => hk) trivial (Below.refl _ _) (Nat.le_refl _) (by simp) ?_; (case hd => rfl); (case hg => rfl); (case hr => first | (go_simp; done) | (go_simp; rfl)); (case hp => exact (Reps.one (show Kd.M (Kd.int .i64) _ _ _ 8 [.int .i64 8] from rfl) (Reps.one (show Kd.M (Kd.int .i64) _ _ _ 16 [.int .i64 16] from rfl) (Reps.one (show Kd.M (Kd.int .i64) _ _ _ 32 [.int .i64 32] from rfl) (Reps.one (show Kd.M (Kd.int .i64) _ _ _ 64 [.int .i64 64] from rfl) (Reps.none _ _)))))); intro v312 w3 ho4 hb hg_ hnew_; clear hg_ hnew_; (first | rw [← Ny311.out] at ho4 | (simp only [Int.reduceToNat] at ho4; rw [← Ny311.out] at ho4)); have HO313 := am (Kd.R_lower ho4 (below_size (kL HB))); replace HB := am (below_step (kL HB) hb); clear hb ho4; obtain ⟨Ao5, co5, eo5⟩ := Kd.R_slice HO313.out; subst eo5) | ((with_reducible refine gC 91 rfl ?_); refine goesL_ (some 5) rfl rfl Tryd.func91 (by kernel_rfl) rfl #[.slice Ao5 y311.length co5, .int .i64 a0] rfl yA ?_; (with_reducible refine (slices_Contains_int_int.calls _ _ _ _ _ _ _ ?side1 ?side2 A2.out).mono ?_); (case side1 => exact (Kd.R_reads' (rB HO313)).2.2); (case side2 => exact (Kd.R_reads' HO313.out).2.1); rintro e w' ⟨rfl, ⟨nd, rfl⟩⟩; refine ⟨_, rfl, ?_⟩))
 go_ret
 exact ⟨yE, (kL HB)⟩
def typed_put.l0 : Nat → Int → List Int → Int → Int → Option (List Int)
 | 0, _, _, _, _ => none
 | k + 1, x0, x5, x11, x12 => if x12 < x11 then (if 0 ≤ (wrap64 (8 * x12)) then (if 0 ≤ (wrap64 ((wrap64 ((x5.length : Int) - 1)) - x12)) then (if (wrap64 ((wrap64 ((x5.length : Int) - 1)) - x12)) < (x5.length : Int) then (typed_put.l0 k x0 (x5.set ((wrap64 ((wrap64 ((x5.length : Int) - 1)) - x12)) : Int).toNat ((shr .i64 x0 (wrap64 (8 * x12))) % 256)) x11 (wrap64 (x12 + 1))) else (none)) else (none)) else (none)) else (some x5)
def typed_put.f (k : Nat) (a0 : Int) (a1 : Int) : Option (List Int) := if 0 ≤ (wrap64 (Int.tdiv a1 8)) then (if (wrap64 (Int.tdiv a1 8) : Int).toNat ≤ 281474976710656 then ((some (List.replicate (wrap64 (Int.tdiv a1 8) : Int).toNat 0 : List Int)).bind fun y315 => (typed_put.l0 k a0 y315 (y315.length : Int) 0)) else (none)) else (none)
theorem typed_put.mono_l : ∀ k, (∀ y0 y1 y2 y3, LeO (typed_put.l0 k y0 y1 y2 y3) (typed_put.l0 (k + 1) y0 y1 y2 y3))
 | 0 => fun _ _ _ _ r h => by simp [typed_put.l0] at h
 | k + 1 => by
  have ih0 := typed_put.mono_l k
  ·intro y0 y1 y2 y3
   unfold typed_put.l0
   with_reducible repeat' first
   | exact ih0 _ _ _ _
   | exact LeO.refl _
   | exact LeO.none _
   | refine LeO.ite ?_ ?_
   | refine LeO.bind ?_ (fun _ => ?_)
theorem typed_put.mono : ∀ a0 a1 k, LeO (typed_put.f k a0 a1) (typed_put.f (k + 1) a0 a1) := by
 intro a0 a1 k
 have ih0 := typed_put.mono_l k
 unfold typed_put.f
 with_reducible repeat' first
   | exact ih0 _ _ _ _
   | exact LeO.refl _
   | exact LeO.none _
   | refine LeO.ite ?_ ?_
   | refine LeO.bind ?_ (fun _ => ?_)
set_option maxHeartbeats 8000000 in
set_option maxRecDepth 100000 in
theorem typed_put.calls (k : Nat) (a0 : Int) (a1 : Int) (r : List Int) (w : World) (h : typed_put.f k a0 a1 = some r) :
  Calls Tryd.prog 97 #[.int .i64 a0, .int .i64 a1] w fun e w' => ∃ v0_ : Value, e = .returned (v0_) ∧ Kd.R (Kd.int .u8) 5 w' w.heap.size (fun _ => True) v0_ r ∧ Below w.heap.size w w' := by
 have HB := am (Below.refl w.heap.size w)
 unfold typed_put.f at h
 have H := h
 clear h
 obtain ⟨ji3, hji3⟩ : ∃ j_ : Int, (wrap64 (Int.tdiv a1 8)) = j_ := ⟨_, rfl⟩
 replace H : (if 0 ≤ (ji3) then (if (ji3 : Int).toNat ≤ 281474976710656 then ((some (List.replicate (ji3 : Int).toNat 0 : List Int)).bind fun y315 => (typed_put.l0 k a0 y315 (y315.length : Int) 0)) else (none)) else (none)) = some r := by first | (rw [hji3] at H; exact H) | (simp only [hji3] at H ⊢; exact H)
 have hji3w : (IntKind.i64.wrap (Int.tdiv a1 8)) = ji3 := (i64_w _).trans hji3
 by_cases c4 : 0 ≤ (ji3)
 ·rw [if_pos c4] at H
  have c4b0 := eq_true c4
  have c4b1 : decide (0 ≤ (ji3)) = true := decide_eq_true c4
  clear c4
  by_cases c5 : (ji3 : Int).toNat ≤ 281474976710656
  ·rw [if_pos c5] at H
   have c5b0 := eq_true c5
   have c5b1 : decide ((ji3 : Int).toNat ≤ 281474976710656) = true := decide_eq_true c5
   clear c5
   obtain ⟨y315, hy315⟩ : ∃ y_ : List Int, y_ = (List.replicate (ji3 : Int).toNat 0) := ⟨_, rfl⟩
   replace H : (typed_put.l0 k a0 y315 (y315.length : Int) 0) = some r := by first | (rw [hy315]; with_reducible exact H) | (have H2_ := (Option.bind_some _ _).symm.trans H; rw [hy315]; with_reducible exact H2_) | (have H2_ := (Option.bind_some _ _).symm.trans H; with_reducible exact H2_) | with_reducible exact H | (rw [hy315]; exact H) | exact H
   have Ny315 := am hy315
   clear hy315
   have H' := am H
   clear H
   go_enter Tryd.func97, Tryd.ntmps97
   go_wp2_with ((with_reducible refine gD 9 rfl ?_); refine Kd.R_make (Kd.int .u8) _ 5 rfl (N := 9) rfl 118 _ _ rfl ji3 rfl rfl Tryd.underlying118 (.int .u8 0) 1 info5 rfl (by decide) (by omega) 0 (ok := fun _ => True) (okp := fun _ => True) rfl (fun _ hk => hk) trivial (of_decide_eq_true yY) (Nat.le_trans (Nat.mul_le_mul_right _ (of_decide_eq_true yY : ji3.toNat ≤ 281474976710656)) (by omega)) (Below.refl _ _) (Nat.le_refl _) ?_; intro v316 w6 ho7 hb hg_ hnew_; clear hg_ hnew_; (first | rw [← Ny315.out] at ho7 | (simp only [Int.reduceToNat] at ho7; rw [← Ny315.out] at ho7)); have HO317 := am (Kd.R_lower ho7 (below_size (kL HB))); replace HB := am (below_step (kL HB) hb); clear hb ho7; obtain ⟨Ao8, co8, eo8⟩ := Kd.R_slice HO317.out; subst eo8)
   go_loopg [12] k (fun kq v12 w' => ∃ (x5_1 : List Int) (x12_1 : Int), v12 = .int .i64 x12_1 ∧ Aside0 (typed_put.l0 kq a0 x5_1 (y315.length : Int) x12_1 = some r) ∧ Aside0 (kq ≤ k) ∧ Aside0 (Kd.R (Kd.int .u8) 5 w' w.heap.size (fun _ => True) (.slice Ao8 y315.length co8) x5_1) ∧ Aside0 (Below w.heap.size w w'))
   case atStart => exact ⟨(y315), (0), yS, H', ⟨Nat.le_refl _⟩, ⟨rB HO317⟩, ⟨(kL HB)⟩⟩
   case round =>
    clear H'
    try clear p2
    try clear c4
    try clear c4b0
    try clear c4b1
    try clear c5
    try clear c5b0
    try clear c5b1
    try clear p6
    obtain ⟨x5_1, x12_1, rfl, HA, HK1, HO_5, HB⟩ := hrel
    have hl5_1 := (Kd.R_reads' HO_5.out).1
    rw [hl5_1] at HO_5
    (try simp only [hl5_1])
    cases gk with
    | zero => exact absurd HA.out (by simp [typed_put.l0])
    | succ k1 =>
     have H := HA.out
     clear HA
     simp only [typed_put.l0] at H
     by_cases c9 : x12_1 < (y315.length : Int)
     ·rw [if_pos c9] at H
      have c9b0 : decide (x12_1 < (y315.length : Int)) = true := decide_eq_true c9
      have c9b8 : decide (x12_1 < (x5_1.length : Int)) = true := hl5_1 ▸ c9b0
      clear c9
      obtain ⟨ji10, hji10⟩ : ∃ j_ : Int, (wrap64 (8 * x12_1)) = j_ := ⟨_, rfl⟩
      replace H : (if 0 ≤ (ji10) then (if 0 ≤ (wrap64 ((wrap64 ((x5_1.length : Int) - 1)) - x12_1)) then (if (wrap64 ((wrap64 ((x5_1.length : Int) - 1)) - x12_1)) < (x5_1.length : Int) then (typed_put.l0 k1 a0 (x5_1.set ((wrap64 ((wrap64 ((x5_1.length : Int) - 1)) - x12_1)) : Int).toNat ((shr .i64 a0 (ji10)) % 256)) (y315.length : Int) (wrap64 (x12_1 + 1))) else (none)) else (none)) else (none)) = some r := by first | (rw [hji10] at H; exact H) | (simp only [hji10] at H ⊢; exact H)
      have hji10w : (IntKind.i64.wrap (8 * x12_1)) = ji10 := (i64_w _).trans hji10
      by_cases c11 : 0 ≤ (ji10)
      ·rw [if_pos c11] at H
       have c11b0 := eq_true c11
       have c11b1 : decide (0 ≤ (ji10)) = true := decide_eq_true c11
       clear c11
       obtain ⟨ji12, hji12⟩ : ∃ j_ : Int, (shr .i64 a0 (ji10)) = j_ := ⟨_, rfl⟩
       replace H : (if 0 ≤ (wrap64 ((wrap64 ((x5_1.length : Int) - 1)) - x12_1)) then (if (wrap64 ((wrap64 ((x5_1.length : Int) - 1)) - x12_1)) < (x5_1.length : Int) then (typed_put.l0 k1 a0 (x5_1.set ((wrap64 ((wrap64 ((x5_1.length : Int) - 1)) - x12_1)) : Int).toNat ((ji12) % 256)) (y315.length : Int) (wrap64 (x12_1 + 1))) else (none)) else (none)) = some r := by first | (rw [hji12] at H; exact H) | (simp only [hji12] at H ⊢; exact H)
       have hji12_ : (a0 / 2 ^ min (ji10).toNat 64) = ji12 := hji12
       have hji12z : (ji10) ≤ 64 → (a0 / 2 ^ (ji10).toNat) = ji12 := shr_small hji12
       obtain ⟨ji13, hji13⟩ : ∃ j_ : Int, (wrap64 ((wrap64 ((x5_1.length : Int) - 1)) - x12_1)) = j_ := ⟨_, rfl⟩
       replace H : (if 0 ≤ (ji13) then (if (ji13) < (x5_1.length : Int) then (typed_put.l0 k1 a0 (x5_1.set ((ji13) : Int).toNat ((ji12) % 256)) (y315.length : Int) (wrap64 (x12_1 + 1))) else (none)) else (none)) = some r := by first | (rw [hji13] at H; exact H) | (simp only [hji13] at H ⊢; exact H)
       have hji13w : (IntKind.i64.wrap ((wrap64 ((x5_1.length : Int) - 1)) - x12_1)) = ji13 := (i64_w _).trans hji13
       by_cases c14 : 0 ≤ (ji13)
       ·rw [if_pos c14] at H
        have c14b0 : decide (0 ≤ (ji13)) = true := decide_eq_true c14
        clear c14
        by_cases c15 : (ji13) < (x5_1.length : Int)
        ·rw [if_pos c15] at H
         have c15b0 : decide ((ji13) < (x5_1.length : Int)) = true := decide_eq_true c15
         clear c15
         obtain ⟨y318, hy318⟩ : ∃ y_ : List Int, y_ = (x5_1.set ((ji13) : Int).toNat ((ji12) % 256)) := ⟨_, rfl⟩
         replace H : (typed_put.l0 k1 a0 y318 (y315.length : Int) (wrap64 (x12_1 + 1))) = some r := by first | (rw [hy318]; with_reducible exact H) | (have H2_ := (Option.bind_some _ _).symm.trans H; rw [hy318]; with_reducible exact H2_) | (have H2_ := (Option.bind_some _ _).symm.trans H; with_reducible exact H2_) | with_reducible exact H | (rw [hy318]; exact H) | exact H
         have Ny318 := am hy318
         clear hy318
         have H' := am H
         clear H
         have p16 : 0 ≤ ((ji13) : Int) := of_decide_eq_true yY
         have q16 : ((ji13) : Int) < ((x5_1.length : Int) : Int) := of_decide_eq_true yY
         obtain ⟨go16, co16, eo16, gb16, gl16, cl16, HG16⟩ := Kd.R_form HO_5.out (by omega)
         (first | cases eo16 | (injection eo16 with ea_ en_ ec_; (first | subst ea_ | (injection ea_ with ea_; subst ea_)); subst ec_; clear en_))
         have GB16 := am gb16
         have GG16 := am HG16
         clear gb16 gl16 HG16
         obtain ⟨hx16_0, hf16_0⟩ := Kd.R_celln 0 HO_5.out ((ji13) : Int) p16 q16
         replace p16 := eq_true p16
         replace q16 := eq_true q16
         have HP17 := Kd.R_putg HO_5.out ((ji13) : Int) ((ji12) % 256)
         go_wp2_with ((with_reducible refine gate_store (t := 5) (p := 26) rfl ?_); refine store_event (t := 5) (p := 26) (v := ?vo_w18) (w1 := (wr.setCell ⟨go16, ((ji13) : Int).toNat, none⟩ (.int .u8 ((ji12) % 256)))) ?hg ?ho ?hn ?hr ?_; (case ho => rfl); (case hg => rfl); (case hn => rfl); (case hr => first | (go_simp; done) | (go_simp; rfl)); intro w18 hw; have hg : wr.grownBy w18 (some go16) := (by rw [hw]; exact HP17.2); have hp_ : Kd.R (Kd.int .u8) 5 w18 w.heap.size (fun _ => True) (.slice (some ⟨go16, 0, none⟩) x5_1.length co8) y318 := (by rw [hw, Ny318.out]; exact HP17.1); clear HP17; replace HO_5 := am (hp_); replace HB := am ((by rw [hw]; exact below_set (HB.out) GB16.out : Below w.heap.size w w18)); clear hg hw hp_)
         (try simp only [← hl5_1])
         go_roundg k1
         case measure => have := HK1.out; omega
         case rel => exact ⟨(y318), (wrap64 (x12_1 + 1)), yS, H', ⟨by have := HK1.out; omega⟩, ⟨by (try simp only [hl5_1]); (with_reducible repeat (first | apply Kd.R_alloc | apply Kd.R_drewN | apply Kd.R_drew)); exact HO_5.out⟩, ⟨(kL HB)⟩⟩
        ·rw [if_neg c15] at H
         exact absurd H (by simp)
       ·rw [if_neg c14] at H
        exact absurd H (by simp)
      ·rw [if_neg c11] at H
       exact absurd H (by simp)
     ·rw [if_neg c9] at H
      have c9b0 : decide (x12_1 < (y315.length : Int)) = false := decide_eq_false c9
      have c9b8 : decide (x12_1 < (x5_1.length : Int)) = false := hl5_1 ▸ c9b0
      clear c9
      obtain rfl := Option.some.inj H
      go_wp2
      go_ret
      exact ⟨_, by first | rfl | (simp [errW_none, errW_some] <;> rfl) | (simp only [← hji3]; first | rfl | (simp [errW_none, errW_some] <;> rfl)) | (simp [*, errW_none, errW_some] <;> rfl), rB HO_5, (kL HB)⟩
  ·rw [if_neg c5] at H
   exact absurd H (by simp)
 ·rw [if_neg c4] at H
  exact absurd H (by simp)
def typed_lay.l0 : Nat → List Int → Int → List Int → List Int → Int → Int → Option (Int × List Int × ByteArray)
 | 0, _, _, _, _, _, _ => none
 | k + 1, x1, x2, x7, x10, x11, x12 => if x12 < x11 then (if 0 ≤ x12 then (if x12 < (x10.length : Int) then ((typed_put.f k (rd x10 x12) x2).bind fun t321 => (if x7.length + t321.length < 140737488355328 then (typed_lay.l0 k x1 x2 (x7 ++ t321) x10 x11 (wrap64 (x12 + 1))) else (none))) else (none)) else (none)) else ((slices_Clone_int_int.f x1).bind fun t327 => (some (x2, t327, strOfNums x7)))
def typed_lay.f (k : Nat) (l0 : List Int) (l1 : List Int) (a2 : Int) : Option (Int × List Int × ByteArray) := typed_lay.l0 k l1 a2 ([] : List Int) l0 (l0.length : Int) 0
theorem typed_lay.mono_l : ∀ k, (∀ y0 y1 y2 y3 y4 y5, LeO (typed_lay.l0 k y0 y1 y2 y3 y4 y5) (typed_lay.l0 (k + 1) y0 y1 y2 y3 y4 y5))
 | 0 => fun _ _ _ _ _ _ r h => by simp [typed_lay.l0] at h
 | k + 1 => by
  have ih0 := typed_lay.mono_l k
  ·intro y0 y1 y2 y3 y4 y5
   unfold typed_lay.l0
   with_reducible repeat' first
   | exact ih0 _ _ _ _ _ _
   | exact typed_put.mono _ _ _
   | exact LeO.refl _
   | exact LeO.none _
   | refine LeO.ite ?_ ?_
   | refine LeO.bind ?_ (fun _ => ?_)
theorem typed_lay.mono : ∀ a0 a1 a2 k, LeO (typed_lay.f k a0 a1 a2) (typed_lay.f (k + 1) a0 a1 a2) := by
 intro a0 a1 a2 k
 have ih0 := typed_lay.mono_l k
 unfold typed_lay.f
 with_reducible repeat' first
   | exact ih0 _ _ _ _ _ _
   | exact typed_put.mono _ _ _
   | exact LeO.refl _
   | exact LeO.none _
   | refine LeO.ite ?_ ?_
   | refine LeO.bind ?_ (fun _ => ?_)
set_option maxHeartbeats 8000000 in
set_option maxRecDepth 100000 in
theorem typed_lay.calls (k : Nat) (A0 : Option Addr) (c0 : Nat) (l0 : List Int) (A1 : Option Addr) (c1 : Nat) (l1 : List Int) (a2 : Int) (r1 : Int) (r2 : List Int) (r3 : ByteArray) (w : World) (hr0 : Kd.C (Kd.int .i64) w A0 l0.length l0) (hc0 : l0.length ≤ c0) (hr1 : Kd.C (Kd.int .i64) w A1 l1.length l1) (hc1 : l1.length ≤ c1) (h : typed_lay.f k l0 l1 a2 = some (r1, r2, r3)) :
  Calls Tryd.prog 63 #[.slice A0 l0.length c0, .slice A1 l1.length c1, .int .i64 a2] w fun e w' => ∃ v1_ : Value, e = .returned (.agg #[.int .i64 r1, v1_, .string r3]) ∧ Kd.R (Kd.int .i64) 3 w' w.heap.size (fun _ => True) v1_ r2 ∧ Below w.heap.size w w' := by
 have hu39 := Tryd.underlying39
 have HR0 := am hr0
 have HC0 := am hc0
 clear hr0 hc0
 have HR1 := am hr1
 have HC1 := am hc1
 clear hr1 hc1
 have HB := am (Below.refl w.heap.size w)
 unfold typed_lay.f at h
 have H := h
 clear h
 have H' := am H
 clear H
 go_enter Tryd.func63, Tryd.ntmps63
 go_wp2_with ((with_reducible refine gD 6 rfl ?_); refine bx 6 #[.int .i64 0, .slice none 0 0, .string (⟨#[]⟩ : ByteArray)] 39 ?_; intro gb319 hg w4 hbox hb; have BK319 := am hbox; have GW319 := am (geL hg (kL HB)); replace HB := am (below_step (kL HB) hb); have GE319 := GW319; clear hb hbox hg)
 go_loopg [7, 12] k (fun kq v7 v12 w' => ∃ (x7_1 : List Int) (x12_1 : Int), v12 = .int .i64 x12_1 ∧ Aside0 (typed_lay.l0 kq l1 a2 x7_1 l0 (l0.length : Int) x12_1 = some (r1, r2, r3)) ∧ Aside0 (kq ≤ k) ∧ Aside0 (Kd.R (Kd.int .u8) 5 w' w.heap.size (fun _ => True) v7 x7_1) ∧ Aside0 (w'.heap[gb319]? = some (.cells #[.int .i64 0, (.slice none 0 0), .string (⟨#[]⟩ : ByteArray)] 39 (0, 0))) ∧ Aside0 (Below w.heap.size w w'))
 case atStart => exact ⟨(([] : List Int)), (0), yS, H', ⟨Nat.le_refl _⟩, ⟨by first | exact Kd.R_nil _ _ _ _ _ | exact Kd.N_nil _ _ _ _ _ | exact Kd.V_nil _ _ _ _ _ | exact Kd.Q_nil _ _ _ _ _ | exact Kd.S_nil _ _ _ _ _⟩, ⟨kB BK319⟩, ⟨(kL HB)⟩⟩
 case round =>
  clear H'
  try clear c1
  try clear p2
  obtain ⟨x7_1, x12_1, rfl, HA, HK1, HO_7, BK319, HB⟩ := hrel
  cases gk with
  | zero => exact absurd HA.out (by simp [typed_lay.l0])
  | succ k1 =>
   have H := HA.out
   clear HA
   simp only [typed_lay.l0] at H
   by_cases c5 : x12_1 < (l0.length : Int)
   ·rw [if_pos c5] at H
    have c5b0 : decide (x12_1 < (l0.length : Int)) = true := decide_eq_true c5
    clear c5
    by_cases c6 : 0 ≤ x12_1
    ·rw [if_pos c6] at H
     have c6b0 : decide (0 ≤ x12_1) = true := decide_eq_true c6
     clear c6
     by_cases c7 : x12_1 < (l0.length : Int)
     ·rw [if_pos c7] at H
      have c7b0 : decide (x12_1 < (l0.length : Int)) = true := decide_eq_true c7
      clear c7
      obtain ⟨t321, A8, H⟩ := bO H
      try dsimp only at H
      by_cases c9 : x7_1.length + t321.length < 140737488355328
      ·rw [if_pos c9] at H
       have LMc9 := am c9
       clear c9
       obtain ⟨y324, hy324⟩ : ∃ y_ : List Int, y_ = (x7_1 ++ t321) := ⟨_, rfl⟩
       replace H : (typed_lay.l0 k1 l1 a2 y324 l0 (l0.length : Int) (wrap64 (x12_1 + 1))) = some (r1, r2, r3) := by first | (rw [hy324]; with_reducible exact H) | (have H2_ := (Option.bind_some _ _).symm.trans H; rw [hy324]; with_reducible exact H2_) | (have H2_ := (Option.bind_some _ _).symm.trans H; with_reducible exact H2_) | with_reducible exact H | (rw [hy324]; exact H) | exact H
       have Ny324 := am hy324
       clear hy324
       have H' := am H
       clear H
       have p320 : 0 ≤ (x12_1 : Int) := of_decide_eq_true yY
       have q320 : x12_1 < (l0.length : Int) := of_decide_eq_true yY
       obtain ⟨ad320, e320, hx320_0⟩ := Kd.at_int HR0.out x12_1 p320 q320
       cases e320
       replace hx320_0 := (HB.out.cell (World.block_lt_of_cell? w _ hx320_0)).trans hx320_0
       replace p320 := eq_true p320
       replace q320 := eq_true q320
       go_wp2_with (first | ((with_reducible refine gC 97 rfl ?_); refine goesL_ (some 19) rfl rfl Tryd.func97 (by kernel_rfl) rfl #[.int .i64 (rd l0 x12_1), .int .i64 a2] rfl yA ?_; (with_reducible refine (typed_put.calls _ _ _ _ _ A8.out).mono ?_); rintro e w10 ⟨v322, rfl, ho0, hb⟩; refine ⟨_, rfl, ?_⟩; have HO323 := am (Kd.R_lower (Kd.R_new' ho0 (Kd.R_lt (rB HO_7))) (below_size (kL HB))); replace HO_7 := am (Kd.R_elder' (rB HO_7) (Kd.R_base ho0) hb); replace BK319 := am (bB (kB BK319) hb); replace HB := am (below_step (kL HB) hb); (try clear ho0 hb); obtain ⟨Ao12, co12, eo12⟩ := Kd.R_slice HO323.out; subst eo12) | ((with_reducible refine gate_builtin (b := .append) (xs := #[.tmp 16, .tmp 19]) rfl ?_); at_builtin; refine Kd.R_append_rows (Kd.int .u8) (w0 := w) w.heap.size rfl (.tmp 16) (.tmp 19) 118 5 (.int .u8 0) 1 rfl Tryd.underlying118 info5 rfl (by decide) (by omega) u7 x7_1 t321 _ _ _ (fun k_ => some k_ ≠ (.slice Ao12 t321.length co12 : Value).ownBlock) (fun _ => False) rfl rfl ?aO ?aR (fun _ _ h => h) (fun _ h => h.elim) ?aF ?aB ?aS ?aL ?_; (case aR => exact (Kd.R_reads' (rB HO323)).2.2); (case aB => exact (kL HB)); (case aF => exact (fun k_ hk => Kd.fresh' (Kd.R_lt (rB HO323)) k_ hk)); (case aO => exact (Kd.R_mono (rB HO_7) (fun _ hk => hk.2))); (case aS => exact (below_size (kL HB))); (case aL => have := LMc9.out; omega); intro v325 w11 ho hb hg hat; rw [← Ny324.out] at ho; have n0_ := am (blk_grown (g := gb319) (o := .cells #[.int .i64 0, .slice none 0 0, .string (⟨#[]⟩ : ByteArray)] 39 (0, 0)) (kB BK319) hg (Kd.R_ne HO_7.out BK319.out (by decide))); have n1_ := am (Kd.R_after (ok := (fun _ => True)) (rB HO323) hg hat); have n2_ := am hb; have n3_ := am (ho); clear BK319; clear HO323; clear HB; clear HO_7; have BK319 := n0_; have HO323 := n1_; have HB := n2_; have HO326 := n3_; clear n0_ n1_ n2_ n3_; clear ho hb hg hat))
       go_roundg k1
       case measure => have := HK1.out; omega
       case rel => exact ⟨(y324), (wrap64 (x12_1 + 1)), yS, H', ⟨by have := HK1.out; omega⟩, ⟨Kd.R_mono (rB HO326) (fun _ hk => trivial)⟩, ⟨kB BK319⟩, ⟨(kL HB)⟩⟩
      ·rw [if_neg c9] at H
       exact absurd H (by simp)
     ·rw [if_neg c7] at H
      exact absurd H (by simp)
    ·rw [if_neg c6] at H
     exact absurd H (by simp)
   ·rw [if_neg c5] at H
    have c5b0 : decide (x12_1 < (l0.length : Int)) = false := decide_eq_false c5
    clear c5
    obtain ⟨t327, A13, H⟩ := bO H
    try dsimp only at H
    simp only [Option.some.injEq, Prod.mk.injEq] at H
    obtain ⟨rfl, rfl, rfl⟩ := H
    try go_wp2
    have hcvA := own_string (P := Tryd.prog) Tryd.underlying118 Tryd.underlying5 Tryd.underlying9 (Kd.own_of_R (Kd.R_drew HO_7.out))
    go_region_law (refine goes_ Tryd.func74 (by kernel_rfl) rfl #[.slice A1 l1.length c1] (by rfl) rfl rfl yA ?_; (with_reducible refine (slices_Clone_int_int.calls _ _ _ _ _ ?side1 ?side2 A13.out).mono ?_); (case side1 => exact Kd.C_below HR1.out (lD HB.out)); (case side2 => exact HC1.out); rintro e w15 ⟨v328, rfl, ho0, hb⟩; refine ⟨_, rfl, ?_⟩; have HO329 := am (Kd.R_lower ho0 (below_size (lD HB.out))); have HO7n := am (Kd.R_below (Kd.R_drew HO_7.out) hb); have BKn := am (bB (bD BK319.out) hb); have HBn := am (below_step (lD HB.out) hb); clear hb ho0; have hcvB := own_string (P := Tryd.prog) Tryd.underlying118 Tryd.underlying5 Tryd.underlying9 (Kd.own_of_R HO7n.out); obtain ⟨Ao17, co17, eo17⟩ := Kd.R_slice HO329.out; subst eo17; have hs20 : w15.cell? ⟨gb319, 0, none⟩ = some (.int .i64 0) := (blk_cell BKn.out 0).trans rfl; have hfs20 := blk_frozen BKn.out 0; have hs21 : w15.cell? ⟨gb319, 1, none⟩ = some (.slice none 0 0) := (blk_cell BKn.out 1).trans rfl; have hfs21 := blk_frozen BKn.out 1; have hs22 : w15.cell? ⟨gb319, 2, none⟩ = some (.string (⟨#[]⟩ : ByteArray)) := (blk_cell BKn.out 2).trans rfl; have hfs22 := blk_frozen BKn.out 2)
    all_goals (
      go_wp2
      refine bodyPost_ret (results_cell_row rfl _ _ gb319 39 #[.int .i64 a2, .slice Ao17 t327.length co17, .string (strOfNums x7_1)] (0, 0) _ rfl (by refine blk_put (cs := #[.int .i64 a2, .slice Ao17 t327.length co17, .string (⟨#[]⟩ : ByteArray)]) ?_ 2 _ rfl; refine blk_put (cs := #[.int .i64 a2, .slice none 0 0, .string (⟨#[]⟩ : ByteArray)]) ?_ 1 _ rfl; refine blk_put (cs := #[.int .i64 0, .slice none 0 0, .string (⟨#[]⟩ : ByteArray)]) ?_ 0 _ rfl; exact BKn.out) Tryd.underlying39 rfl (by kernel_rfl)) rfl ?_
      exact ⟨_, yE, Kd.R_mono (Kd.R_far (p := ⟨gb319, 2, none⟩) (Kd.R_far (p := ⟨gb319, 1, none⟩) (Kd.R_far (p := ⟨gb319, 0, none⟩) (Kd.R_types HO329.out BKn.out (by decide)) (fun _ hk => hk.2) (.int .i64 a2)) (fun _ hk => hk.2) (.slice Ao17 t327.length co17)) (fun _ hk => hk.2) (.string (strOfNums x7_1))) (fun _ hk => trivial), below_set (below_set (below_set HBn.out GE319.out) GE319.out) GE319.out⟩)
end Go.Proofs.YthcijldahbalcaaDoor.P
end
section
namespace Go.Proofs.YthcijldahbalcaaDoor.P
open Go.RowKit Go.Proofs.YthcijldahbalcaaDoorW.PrintWords Go.Proofs.YthcijldahbalcaaDoorW.PrintLast Go.Proofs.YthcijldahbalcaaDoorW.PrintMore
attribute [local go_sem] max2_int min2_int max_two min_two max_three min_three max_four min_four   
set_option linter.unusedVariables false
set_option linter.unusedSimpArgs false
def typed_Pack.l0 : Nat → Int → List Int → List ByteArray → Int → Int → List Int → List ByteArray → Option (Int × List Int × ByteArray × Int)
 | 0, _, _, _, _, _, _, _ => none
 | k + 1, x4, x5, x21, x22, x23, x331000, x331001 => if x23 < x22 then (if 0 ≤ x23 then (if x23 < (x21.length : Int) then ((num_Int.f (rdOf ByteArray.empty x21 x23)).bind fun bt336 => (if x5.length < 17592186044416 then (typed_Pack.l0 k x4 (x5 ++ [bt336.1]) x21 x22 (wrap64 (x23 + 1)) x331000 x331001) else (none))) else (none)) else (none)) else ((typed_lay.f k x5 x331000 x4).bind fun bt341 => (some (bt341.1, bt341.2.1, bt341.2.2, 0)))
def typed_Pack.f (k : Nat) (l0_0 : List Int) (l0_1 : List ByteArray) : Option (Int × List Int × ByteArray × Int) := (val_May.f k l0_0 l0_1).bind fun t332 => (if t332 = true then ((val_Width.f k l0_0 l0_1).bind fun t333 => ((typed_known.f k t333).bind fun t334 => (if t334 = true then (typed_Pack.l0 k t333 ([] : List Int) l0_1 (l0_1.length : Int) 0 l0_0 l0_1) else (some (0, ([] : List Int), (⟨#[]⟩ : ByteArray), 8))))) else (some (0, ([] : List Int), (⟨#[]⟩ : ByteArray), 1)))
theorem typed_Pack.mono_l : ∀ k, (∀ y0 y1 y2 y3 y4 y5 y6, LeO (typed_Pack.l0 k y0 y1 y2 y3 y4 y5 y6) (typed_Pack.l0 (k + 1) y0 y1 y2 y3 y4 y5 y6))
 | 0 => fun _ _ _ _ _ _ _ r h => by simp [typed_Pack.l0] at h
 | k + 1 => by
  have ih0 := typed_Pack.mono_l k
  ·intro y0 y1 y2 y3 y4 y5 y6
   unfold typed_Pack.l0
   with_reducible repeat' first
   | exact ih0 _ _ _ _ _ _ _
   | exact typed_known.mono _ _
   | exact typed_lay.mono _ _ _ _
   | exact val_May.mono _ _ _
   | exact val_Width.mono _ _ _
   | exact LeO.refl _
   | exact LeO.none _
   | refine LeO.ite ?_ ?_
   | refine LeO.bind ?_ (fun _ => ?_)
theorem typed_Pack.mono : ∀ a0 a1 k, LeO (typed_Pack.f k a0 a1) (typed_Pack.f (k + 1) a0 a1) := by
 intro a0 a1 k
 have ih0 := typed_Pack.mono_l k
 unfold typed_Pack.f
 with_reducible repeat' first
   | exact ih0 _ _ _ _ _ _ _
   | exact typed_known.mono _ _
   | exact typed_lay.mono _ _ _ _
   | exact val_May.mono _ _ _
   | exact val_Width.mono _ _ _
   | exact LeO.refl _
   | exact LeO.none _
   | refine LeO.ite ?_ ?_
   | refine LeO.bind ?_ (fun _ => ?_)
set_option maxHeartbeats 8000000 in
set_option maxRecDepth 100000 in
theorem typed_Pack.calls (k : Nat) (A0_0 : Option Addr) (c0_0 : Nat) (l0_0 : List Int) (A0_1 : Option Addr) (c0_1 : Nat) (l0_1 : List ByteArray) (r1 : Int) (r2 : List Int) (r3 : ByteArray) (r4 : Int) (w : World) (hr0_0 : Kd.C (Kd.int .i64) w A0_0 l0_0.length l0_0) (hc0_0 : l0_0.length ≤ c0_0) (hr0_1 : Kd.C Kd.string w A0_1 l0_1.length l0_1) (hc0_1 : l0_1.length ≤ c0_1) (hG : Glob w) (h : typed_Pack.f k l0_0 l0_1 = some (r1, r2, r3, r4)) :
  Calls Tryd.prog 26 #[.agg #[.slice A0_0 l0_0.length c0_0, .slice A0_1 l0_1.length c0_1]] w fun e w' => ∃ v1_ : Value, e = .returned (.tuple #[.agg #[.int .i64 r1, v1_, .string r3], .int .i64 r4]) ∧ Kd.R (Kd.int .i64) 3 w' w.heap.size (fun _ => True) v1_ r2 ∧ Below w.heap.size w w' := by
 have HG := am hG
 clear hG
 have hu25 := Tryd.underlying25
 have hu39 := Tryd.underlying39
 have HR0_0 := am hr0_0
 have HC0_0 := am hc0_0
 clear hr0_0 hc0_0
 have HR0_1 := am hr0_1
 have HC0_1 := am hc0_1
 clear hr0_1 hc0_1
 have HB := am (Below.refl w.heap.size w)
 unfold typed_Pack.f at h
 have H := h
 clear h
 obtain ⟨t332, A2, H⟩ := bO H
 try dsimp only at H
 by_cases c3 : t332 = true
 ·subst c3
  rw [if_pos rfl] at H
  obtain ⟨t333, A4, H⟩ := bO H
  try dsimp only at H
  obtain ⟨t334, A5, H⟩ := bO H
  try dsimp only at H
  by_cases c6 : t334 = true
  ·subst c6
   rw [if_pos rfl] at H
   have H' := am H
   clear H
   go_enter Tryd.func26, Tryd.ntmps26
   go_wp2_with (first | ((with_reducible refine gD 1 rfl ?_); refine bx 1 #[.slice A0_0 l0_0.length c0_0, .slice A0_1 l0_1.length c0_1] 25 ?_; intro gb330 hg w7 hbox hb; have BK330 := am hbox; have GW330 := am (geL hg (kL HB)); replace HB := am (below_step (kL HB) hb); have GE330 := GW330; clear hb hbox hg) | ((with_reducible refine gD 2 rfl ?_); refine bx 2 #[.int .i64 0, .slice none 0 0, .string (⟨#[]⟩ : ByteArray)] 39 ?_; intro gb331 hg w8 hbox hb; have BK331 := am hbox; have GW331 := am (geL hg (kL HB)); replace HB := am (below_step (kL HB) hb); have GE331 := GW331; have NB330_331 := am (neL hg (kB BK330)); have NB331_330 := am (neR hg (kB BK330)); replace BK330 := am (bB (kB BK330) hb); clear hb hbox hg; have hnb9 := NB330_331.out; have hnc9 := NB331_330.out; obtain ⟨hcz10_0, hcz10_1, hfz10_0, hfz10_1⟩ := bk2 BK330.out) | ((with_reducible refine gC 21 rfl ?_); refine goesL_ (some 11) rfl rfl Tryd.func21 (by kernel_rfl) rfl #[.agg #[.slice A0_0 l0_0.length c0_0, .slice A0_1 l0_1.length c0_1]] rfl yA ?_; (with_reducible refine (val_May.calls _ _ _ _ _ _ _ _ _ ?side1 ?side2 ?side3 ?side4 A2.out).mono ?_); (case side1 => exact Kd.C_below HR0_0.out (kL HB)); (case side2 => exact HC0_0.out); (case side3 => exact Kd.C_below HR0_1.out (kL HB)); (case side4 => exact HC0_1.out); rintro e w11 ⟨rfl, hb⟩; refine ⟨_, rfl, ?_⟩; replace BK330 := am (bB (kB BK330) hb); replace BK331 := am (bB (kB BK331) hb); replace HB := am (below_step (kL HB) hb); (try clear hb); obtain ⟨hcz12_0, hcz12_1, hfz12_0, hfz12_1⟩ := bk2 BK330.out) | ((with_reducible refine gC 18 rfl ?_); refine goesL_ (some 15) rfl rfl Tryd.func18 (by kernel_rfl) rfl #[.agg #[.slice A0_0 l0_0.length c0_0, .slice A0_1 l0_1.length c0_1]] rfl yA ?_; (with_reducible refine (val_Width.calls _ _ _ _ _ _ _ _ _ ?side1 ?side2 ?side3 ?side4 (gG HG (kL HB)) A4.out).mono ?_); (case side1 => exact Kd.C_below HR0_0.out (kL HB)); (case side2 => exact HC0_0.out); (case side3 => exact Kd.C_below HR0_1.out (kL HB)); (case side4 => exact HC0_1.out); rintro e w13 ⟨rfl, hb⟩; refine ⟨_, rfl, ?_⟩; replace BK330 := am (bB (kB BK330) hb); replace BK331 := am (bB (kB BK331) hb); replace HB := am (below_step (kL HB) hb); (try clear hb)) | ((with_reducible refine gC 61 rfl ?_); refine goesL_ (some 17) rfl rfl Tryd.func61 (by kernel_rfl) rfl #[.int .i64 t333] rfl yA ?_; (with_reducible refine (typed_known.calls _ _ _ _ A5.out).mono ?_); rintro e w14 ⟨rfl, hb⟩; refine ⟨_, rfl, ?_⟩; replace BK330 := am (bB (kB BK330) hb); replace BK331 := am (bB (kB BK331) hb); replace HB := am (below_step (kL HB) hb); (try clear hb); obtain ⟨hcz15_0, hcz15_1, hfz15_0, hfz15_1⟩ := bk2 BK330.out))
   go_loopg [5, 23] k (fun kq v5 v23 w' => ∃ (x5_1 : List Int) (x23_1 : Int), v23 = .int .i64 x23_1 ∧ Aside0 (typed_Pack.l0 kq t333 x5_1 l0_1 (l0_1.length : Int) x23_1 l0_0 l0_1 = some (r1, r2, r3, r4)) ∧ Aside0 (kq ≤ k) ∧ Aside0 (Kd.R (Kd.int .i64) 2 w' w.heap.size (fun _ => True) v5 x5_1) ∧ Aside0 (w'.heap[gb330]? = some (.cells #[(.slice A0_0 l0_0.length c0_0), (.slice A0_1 l0_1.length c0_1)] 25 (0, 0))) ∧ Aside0 (w'.heap[gb331]? = some (.cells #[.int .i64 0, (.slice none 0 0), .string (⟨#[]⟩ : ByteArray)] 39 (0, 0))) ∧ Aside0 (Below w.heap.size w w'))
   case atStart => exact ⟨(([] : List Int)), (0), yS, H', ⟨Nat.le_refl _⟩, ⟨by first | exact Kd.R_nil _ _ _ _ _ | exact Kd.N_nil _ _ _ _ _ | exact Kd.V_nil _ _ _ _ _ | exact Kd.Q_nil _ _ _ _ _ | exact Kd.S_nil _ _ _ _ _⟩, ⟨kB BK330⟩, ⟨kB BK331⟩, ⟨(kL HB)⟩⟩
   case round =>
    clear H'
    try clear c1
    try clear c2
    try clear p2
    try clear c3
    try clear c6
    try clear c9
    try clear hcz10_0 hcz10_1 hfz10_0 hfz10_1
    try clear hcz12_0 hcz12_1 hfz12_0 hfz12_1
    try clear hcz15_0 hcz15_1 hfz15_0 hfz15_1
    obtain ⟨x5_1, x23_1, rfl, HA, HK1, HO_5, BK330, BK331, HB⟩ := hrel
    cases gk with
    | zero => exact absurd HA.out (by simp [typed_Pack.l0])
    | succ k1 =>
     have H := HA.out
     clear HA
     simp only [typed_Pack.l0] at H
     by_cases c16 : x23_1 < (l0_1.length : Int)
     ·rw [if_pos c16] at H
      have c16b0 : decide (x23_1 < (l0_1.length : Int)) = true := decide_eq_true c16
      clear c16
      by_cases c17 : 0 ≤ x23_1
      ·rw [if_pos c17] at H
       have c17b0 : decide (0 ≤ x23_1) = true := decide_eq_true c17
       clear c17
       by_cases c18 : x23_1 < (l0_1.length : Int)
       ·rw [if_pos c18] at H
        have c18b0 : decide (x23_1 < (l0_1.length : Int)) = true := decide_eq_true c18
        clear c18
        obtain ⟨⟨t336, t337⟩, A19, H⟩ := bO H
        try dsimp only at H
        by_cases c20 : x5_1.length < 17592186044416
        ·rw [if_pos c20] at H
         have LMc20 := am c20
         clear c20
         obtain ⟨y338, hy338⟩ : ∃ y_ : List Int, y_ = (x5_1 ++ [t336]) := ⟨_, rfl⟩
         replace H : (typed_Pack.l0 k1 t333 y338 l0_1 (l0_1.length : Int) (wrap64 (x23_1 + 1)) l0_0 l0_1) = some (r1, r2, r3, r4) := by first | (rw [hy338]; with_reducible exact H) | (have H2_ := (Option.bind_some _ _).symm.trans H; rw [hy338]; with_reducible exact H2_) | (have H2_ := (Option.bind_some _ _).symm.trans H; with_reducible exact H2_) | with_reducible exact H | (rw [hy338]; exact H) | exact H
         have Ny338 := am hy338
         clear hy338
         have H' := am H
         clear H
         have p335 : 0 ≤ (x23_1 : Int) := of_decide_eq_true yY
         have q335 : x23_1 < (l0_1.length : Int) := of_decide_eq_true yY
         obtain ⟨ad335, e335, hx335_0⟩ := Kd.at_string HR0_1.out x23_1 p335 q335
         cases e335
         replace hx335_0 := (HB.out.cell (World.block_lt_of_cell? w _ hx335_0)).trans hx335_0
         replace p335 := eq_true p335
         replace q335 := eq_true q335
         go_wp2_with (first | ((with_reducible refine gC 62 rfl ?_); refine goesL_ (some 29) rfl rfl Tryd.func62 (by kernel_rfl) rfl #[.string (rdOf ByteArray.empty l0_1 x23_1)] rfl yA ?_; (with_reducible refine (num_Int.calls _ _ _ _ (gG HG (kL HB)) A19.out).mono ?_); rintro e w21 ⟨rfl, hb⟩; refine ⟨_, rfl, ?_⟩; replace HO_5 := am (Kd.R_below (rB HO_5) hb); replace BK330 := am (bB (kB BK330) hb); replace BK331 := am (bB (kB BK331) hb); replace HB := am (below_step (kL HB) hb); (try clear hb)) | ((with_reducible refine gate_builtin (b := .append) (xs := #[.tmp 32, .tmp 34]) rfl ?_); at_builtin; refine Kd.R_append (Kd.int .i64) (w0 := w) w.heap.size rfl (.tmp 32) (.tmp 34) 80 2 (.int .i64 0) 8 rfl Tryd.underlying80 info2 rfl (by decide) (by omega) u5 x5_1 t336 [.int .i64 t336] (fun _ => True) (fun _ => False) rfl rfl ?aP (fun _ hk => hk.elim) ?aF ?aO ?aB ?aS ?aL ?_; (case aP => exact rfl); (case aB => exact (kL HB)); (case aF => exact (fun _ _ => trivial)); (case aO => exact (rB HO_5)); (case aS => exact (below_size (kL HB))); (case aL => have := LMc20.out; omega); intro v339 w22 ho hb hg hat; rw [← Ny338.out] at ho; have n0_ := am (blk_grown (g := gb330) (o := .cells #[.slice A0_0 l0_0.length c0_0, .slice (some ad335) l0_1.length c0_1] 25 (0, 0)) (kB BK330) hg (Kd.R_ne HO_5.out BK330.out (by decide))); have n1_ := am (blk_grown (g := gb331) (o := .cells #[.int .i64 0, .slice none 0 0, .string (⟨#[]⟩ : ByteArray)] 39 (0, 0)) (kB BK331) hg (Kd.R_ne HO_5.out BK331.out (by decide))); have n2_ := am hb; have n3_ := am (ho); clear BK330; clear BK331; clear HB; clear HO_5; have BK330 := n0_; have BK331 := n1_; have HB := n2_; have HO340 := n3_; clear n0_ n1_ n2_ n3_; clear ho hb hg hat))
         go_roundg k1
         case measure => have := HK1.out; omega
         case rel => exact ⟨(y338), (wrap64 (x23_1 + 1)), yS, H', ⟨by have := HK1.out; omega⟩, ⟨rB HO340⟩, ⟨kB BK330⟩, ⟨kB BK331⟩, ⟨(kL HB)⟩⟩
        ·rw [if_neg c20] at H
         exact absurd H (by simp)
       ·rw [if_neg c18] at H
        exact absurd H (by simp)
      ·rw [if_neg c17] at H
       exact absurd H (by simp)
     ·rw [if_neg c16] at H
      have c16b0 : decide (x23_1 < (l0_1.length : Int)) = false := decide_eq_false c16
      clear c16
      obtain ⟨⟨t341, t342, t345⟩, A23, H⟩ := bO H
      try dsimp only at H
      simp only [Option.some.injEq, Prod.mk.injEq] at H
      obtain ⟨rfl, rfl, rfl, rfl⟩ := H
      have hnb24 := NB330_331.out
      have hnc24 := NB331_330.out
      obtain ⟨hcz25_0, hcz25_1, hfz25_0, hfz25_1⟩ := bk2 BK330.out
      obtain ⟨Ao26, co26, eo26⟩ := Kd.R_slice HO_5.out
      subst eo26
      go_wp2_with ((with_reducible refine gC 63 rfl ?_); refine goesL_ (some 41) rfl rfl Tryd.func63 (by kernel_rfl) rfl #[.slice Ao26 x5_1.length co26, .slice A0_0 l0_0.length c0_0, .int .i64 t333] rfl yA ?_; (with_reducible refine (typed_lay.calls _ _ _ _ _ _ _ _ _ _ _ _ ?side1 ?side2 ?side3 ?side4 A23.out).mono ?_); (case side1 => exact (Kd.R_reads' (rB HO_5)).2.2); (case side2 => exact (Kd.R_reads' HO_5.out).2.1); (case side3 => exact Kd.C_below HR0_0.out (kL HB)); (case side4 => exact HC0_0.out); rintro e w27 ⟨v343, rfl, ho0, hb⟩; refine ⟨_, rfl, ?_⟩; replace HO_5 := am (Kd.R_below (rB HO_5) hb); have HO344 := am (Kd.R_lower ho0 (below_size (kL HB))); replace BK330 := am (bB (kB BK330) hb); replace BK331 := am (bB (kB BK331) hb); replace HB := am (below_step (kL HB) hb); (try clear ho0 hb); obtain ⟨hcz28_0, hcz28_1, hcz28_2, hfz28_0, hfz28_1, hfz28_2⟩ := bk3 BK331.out; obtain ⟨Ao29, co29, eo29⟩ := Kd.R_slice HO344.out; subst eo29)
      refine bodyPost_ret (results_ct rfl _ _ gb331 39 #[.int .i64 t341, .slice Ao29 t342.length co29, .string t345] (0, 0) _ rfl (kM BK331) Tryd.underlying39 rfl (by kernel_rfl)) rfl ?_
      exact ⟨_, yE, by (with_reducible repeat (first | apply Kd.R_alloc | apply Kd.R_drewN | apply Kd.R_drew)); exact Kd.R_mono (Kd.R_far (p := ⟨gb331, 2, none⟩) (Kd.R_far (p := ⟨gb331, 1, none⟩) (Kd.R_far (p := ⟨gb331, 0, none⟩) (Kd.R_types HO344.out BK331.out (by decide)) (fun _ hk => hk.2) (.int .i64 t341)) (fun _ hk => hk.2) (.slice Ao29 t342.length co29)) (fun _ hk => hk.2) (.string t345)) (fun _ hk => trivial), (kL HB)⟩
  ·replace c6 := Bool.eq_false_iff.mpr c6
   subst c6
   rw [if_neg (show ¬ (false = true) by decide)] at H
   simp only [Option.some.injEq, Prod.mk.injEq] at H
   obtain ⟨rfl, rfl, rfl, rfl⟩ := H
   go_enter Tryd.func26, Tryd.ntmps26
   go_wp2_with (first | ((with_reducible refine gD 1 rfl ?_); refine bx 1 #[.slice A0_0 l0_0.length c0_0, .slice A0_1 l0_1.length c0_1] 25 ?_; intro gb330 hg w30 hbox hb; have BK330 := am hbox; have GW330 := am (geL hg (kL HB)); replace HB := am (below_step (kL HB) hb); have GE330 := GW330; clear hb hbox hg) | ((with_reducible refine gD 2 rfl ?_); refine bx 2 #[.int .i64 0, .slice none 0 0, .string (⟨#[]⟩ : ByteArray)] 39 ?_; intro gb331 hg w31 hbox hb; have BK331 := am hbox; have GW331 := am (geL hg (kL HB)); replace HB := am (below_step (kL HB) hb); have GE331 := GW331; have NB330_331 := am (neL hg (kB BK330)); have NB331_330 := am (neR hg (kB BK330)); replace BK330 := am (bB (kB BK330) hb); clear hb hbox hg; have hnb32 := NB330_331.out; have hnc32 := NB331_330.out; obtain ⟨hcz33_0, hcz33_1, hfz33_0, hfz33_1⟩ := bk2 BK330.out) | ((with_reducible refine gC 21 rfl ?_); refine goesL_ (some 11) rfl rfl Tryd.func21 (by kernel_rfl) rfl #[.agg #[.slice A0_0 l0_0.length c0_0, .slice A0_1 l0_1.length c0_1]] rfl yA ?_; (with_reducible refine (val_May.calls _ _ _ _ _ _ _ _ _ ?side1 ?side2 ?side3 ?side4 A2.out).mono ?_); (case side1 => exact Kd.C_below HR0_0.out (kL HB)); (case side2 => exact HC0_0.out); (case side3 => exact Kd.C_below HR0_1.out (kL HB)); (case side4 => exact HC0_1.out); rintro e w34 ⟨rfl, hb⟩; refine ⟨_, rfl, ?_⟩; replace BK330 := am (bB (kB BK330) hb); replace BK331 := am (bB (kB BK331) hb); replace HB := am (below_step (kL HB) hb); (try clear hb); obtain ⟨hcz35_0, hcz35_1, hfz35_0, hfz35_1⟩ := bk2 BK330.out) | ((with_reducible refine gC 18 rfl ?_); refine goesL_ (some 15) rfl rfl Tryd.func18 (by kernel_rfl) rfl #[.agg #[.slice A0_0 l0_0.length c0_0, .slice A0_1 l0_1.length c0_1]] rfl yA ?_; (with_reducible refine (val_Width.calls _ _ _ _ _ _ _ _ _ ?side1 ?side2 ?side3 ?side4 (gG HG (kL HB)) A4.out).mono ?_); (case side1 => exact Kd.C_below HR0_0.out (kL HB)); (case side2 => exact HC0_0.out); (case side3 => exact Kd.C_below HR0_1.out (kL HB)); (case side4 => exact HC0_1.out); rintro e w36 ⟨rfl, hb⟩; refine ⟨_, rfl, ?_⟩; replace BK330 := am (bB (kB BK330) hb); replace BK331 := am (bB (kB BK331) hb); replace HB := am (below_step (kL HB) hb); (try clear hb)) | ((with_reducible refine gC 61 rfl ?_); refine goesL_ (some 17) rfl rfl Tryd.func61 (by kernel_rfl) rfl #[.int .i64 t333] rfl yA ?_; (with_reducible refine (typed_known.calls _ _ _ _ A5.out).mono ?_); rintro e w37 ⟨rfl, hb⟩; refine ⟨_, rfl, ?_⟩; replace BK330 := am (bB (kB BK330) hb); replace BK331 := am (bB (kB BK331) hb); replace HB := am (below_step (kL HB) hb); (try clear hb); obtain ⟨hcz38_0, hcz38_1, hcz38_2, hfz38_0, hfz38_1, hfz38_2⟩ := bk3 BK331.out))
   refine bodyPost_ret (results_ct rfl _ _ gb331 39 #[.int .i64 0, .slice none 0 0, .string (⟨#[]⟩ : ByteArray)] (0, 0) _ rfl (kM BK331) Tryd.underlying39 rfl (by kernel_rfl)) rfl ?_
   exact ⟨_, yE, by first | exact Kd.R_nil _ _ _ _ _ | exact Kd.N_nil _ _ _ _ _ | exact Kd.V_nil _ _ _ _ _ | exact Kd.Q_nil _ _ _ _ _ | exact Kd.S_nil _ _ _ _ _, (kL HB)⟩
 ·replace c3 := Bool.eq_false_iff.mpr c3
  subst c3
  rw [if_neg (show ¬ (false = true) by decide)] at H
  simp only [Option.some.injEq, Prod.mk.injEq] at H
  obtain ⟨rfl, rfl, rfl, rfl⟩ := H
  go_enter Tryd.func26, Tryd.ntmps26
  go_wp2_with (first | ((with_reducible refine gD 1 rfl ?_); refine bx 1 #[.slice A0_0 l0_0.length c0_0, .slice A0_1 l0_1.length c0_1] 25 ?_; intro gb330 hg w39 hbox hb; have BK330 := am hbox; have GW330 := am (geL hg (kL HB)); replace HB := am (below_step (kL HB) hb); have GE330 := GW330; clear hb hbox hg) | ((with_reducible refine gD 2 rfl ?_); refine bx 2 #[.int .i64 0, .slice none 0 0, .string (⟨#[]⟩ : ByteArray)] 39 ?_; intro gb331 hg w40 hbox hb; have BK331 := am hbox; have GW331 := am (geL hg (kL HB)); replace HB := am (below_step (kL HB) hb); have GE331 := GW331; have NB330_331 := am (neL hg (kB BK330)); have NB331_330 := am (neR hg (kB BK330)); replace BK330 := am (bB (kB BK330) hb); clear hb hbox hg; have hnb41 := NB330_331.out; have hnc41 := NB331_330.out; obtain ⟨hcz42_0, hcz42_1, hfz42_0, hfz42_1⟩ := bk2 BK330.out) | ((with_reducible refine gC 21 rfl ?_); refine goesL_ (some 11) rfl rfl Tryd.func21 (by kernel_rfl) rfl #[.agg #[.slice A0_0 l0_0.length c0_0, .slice A0_1 l0_1.length c0_1]] rfl yA ?_; (with_reducible refine (val_May.calls _ _ _ _ _ _ _ _ _ ?side1 ?side2 ?side3 ?side4 A2.out).mono ?_); (case side1 => exact Kd.C_below HR0_0.out (kL HB)); (case side2 => exact HC0_0.out); (case side3 => exact Kd.C_below HR0_1.out (kL HB)); (case side4 => exact HC0_1.out); rintro e w43 ⟨rfl, hb⟩; refine ⟨_, rfl, ?_⟩; replace BK330 := am (bB (kB BK330) hb); replace BK331 := am (bB (kB BK331) hb); replace HB := am (below_step (kL HB) hb); (try clear hb); obtain ⟨hcz44_0, hcz44_1, hcz44_2, hfz44_0, hfz44_1, hfz44_2⟩ := bk3 BK331.out))
  refine bodyPost_ret (results_ct rfl _ _ gb331 39 #[.int .i64 0, .slice none 0 0, .string (⟨#[]⟩ : ByteArray)] (0, 0) _ rfl (kM BK331) Tryd.underlying39 rfl (by kernel_rfl)) rfl ?_
  exact ⟨_, yE, by first | exact Kd.R_nil _ _ _ _ _ | exact Kd.N_nil _ _ _ _ _ | exact Kd.V_nil _ _ _ _ _ | exact Kd.Q_nil _ _ _ _ _ | exact Kd.S_nil _ _ _ _ _, (kL HB)⟩
def typed_Typed_May.f (k : Nat) (a0_0 : Int) (l0_1 : List Int) (a0_2 : ByteArray) : Option (Bool) := (shape_Size.f k l0_1).bind fun bt347 => ((typed_known.f k a0_0).bind fun t349 => (if t349 = true then (if bt347.2 = 0 then (some ((a0_2.size : Int) == (wrap64 (Int.tdiv (wrap64 (bt347.1 * a0_0)) 8)))) else (some false)) else (some false)))
theorem typed_Typed_May.mono : ∀ a0 a1 a2 k, LeO (typed_Typed_May.f k a0 a1 a2) (typed_Typed_May.f (k + 1) a0 a1 a2) := by
 intro a0 a1 a2 k
 unfold typed_Typed_May.f
 with_reducible repeat' first
   | exact shape_Size.mono _ _
   | exact typed_known.mono _ _
   | exact LeO.refl _
   | exact LeO.none _
   | refine LeO.ite ?_ ?_
   | refine LeO.bind ?_ (fun _ => ?_)
set_option maxHeartbeats 8000000 in
set_option maxRecDepth 100000 in
theorem typed_Typed_May.calls (k : Nat) (a0_0 : Int) (A0_1 : Option Addr) (c0_1 : Nat) (l0_1 : List Int) (a0_2 : ByteArray) (r : Bool) (w : World) (hr0_1 : Kd.C (Kd.int .i64) w A0_1 l0_1.length l0_1) (hc0_1 : l0_1.length ≤ c0_1) (h : typed_Typed_May.f k a0_0 l0_1 a0_2 = some r) :
  Calls Tryd.prog 38 #[.agg #[.int .i64 a0_0, .slice A0_1 l0_1.length c0_1, .string a0_2]] w fun e w' => e = .returned (.bool r) ∧ Below w.heap.size w w' := by
 have hu39 := Tryd.underlying39
 have HR0_1 := am hr0_1
 have HC0_1 := am hc0_1
 clear hr0_1 hc0_1
 have HB := am (Below.refl w.heap.size w)
 unfold typed_Typed_May.f at h
 have H := h
 clear h
 obtain ⟨⟨t347, t348⟩, A2, H⟩ := bO H
 try dsimp only at H
 obtain ⟨t349, A3, H⟩ := bO H
 try dsimp only at H
 by_cases c4 : t349 = true
 ·subst c4
  rw [if_pos rfl] at H
  by_cases c5 : t348 = 0
  ·rw [if_pos c5] at H
   have c5b0 := eT c5
   have c5b1 := nF c5
   clear c5
   obtain rfl := Option.some.inj H
   go_enter Tryd.func38, Tryd.ntmps38
   go_wp2_with (first | ((with_reducible refine gD 1 rfl ?_); (try (refine gate_guard (by rfl) ?_; dsimp only)); refine bx 1 #[.int .i64 a0_0, .slice A0_1 l0_1.length c0_1, .string a0_2] 39 ?_; intro gb346 hg w6 hbox hb; have BK346 := am hbox; have GW346 := am (geL hg (kL HB)); replace HB := am (below_step (kL HB) hb); have GE346 := GW346; clear hb hbox hg; obtain ⟨hcz7_0, hcz7_1, hcz7_2, hfz7_0, hfz7_1, hfz7_2⟩ := bk3 BK346.out) | ((with_reducible refine gC 56 rfl ?_); refine goesL_ (some 8) rfl rfl Tryd.func56 (by kernel_rfl) rfl #[.slice A0_1 l0_1.length c0_1] rfl yA ?_; (with_reducible refine (shape_Size.calls _ _ _ _ _ _ _ ?side1 ?side2 A2.out).mono ?_); (case side1 => exact Kd.C_below HR0_1.out (kL HB)); (case side2 => exact HC0_1.out); rintro e w' ⟨rfl, ⟨nd, rfl⟩⟩; refine ⟨_, rfl, ?_⟩) | ((with_reducible refine gC 61 rfl ?_); refine goesL_ (some 13) rfl rfl Tryd.func61 (by kernel_rfl) rfl #[.int .i64 a0_0] rfl yA ?_; (with_reducible refine (typed_known.calls _ _ _ _ A3.out).mono ?_); rintro e w8 ⟨rfl, hb⟩; refine ⟨_, rfl, ?_⟩; replace BK346 := am (bB (kB BK346) hb); replace HB := am (below_step (kL HB) hb); obtain ⟨hcz9_0, hcz9_1, hcz9_2, hfz9_0, hfz9_1, hfz9_2⟩ := bk3 BK346.out))
   go_ret
   exact ⟨yE, (kL HB)⟩
  ·rw [if_neg c5] at H
   have c5b0 := eF c5
   have c5b1 := nT c5
   obtain rfl := Option.some.inj H
   go_enter Tryd.func38, Tryd.ntmps38
   go_wp2_with (first | ((with_reducible refine gD 1 rfl ?_); (try (refine gate_guard (by rfl) ?_; dsimp only)); refine bx 1 #[.int .i64 a0_0, .slice A0_1 l0_1.length c0_1, .string a0_2] 39 ?_; intro gb346 hg w10 hbox hb; have BK346 := am hbox; have GW346 := am (geL hg (kL HB)); replace HB := am (below_step (kL HB) hb); have GE346 := GW346; clear hb hbox hg; obtain ⟨hcz11_0, hcz11_1, hcz11_2, hfz11_0, hfz11_1, hfz11_2⟩ := bk3 BK346.out) | ((with_reducible refine gC 56 rfl ?_); refine goesL_ (some 8) rfl rfl Tryd.func56 (by kernel_rfl) rfl #[.slice A0_1 l0_1.length c0_1] rfl yA ?_; (with_reducible refine (shape_Size.calls _ _ _ _ _ _ _ ?side1 ?side2 A2.out).mono ?_); (case side1 => exact Kd.C_below HR0_1.out (kL HB)); (case side2 => exact HC0_1.out); rintro e w' ⟨rfl, ⟨nd, rfl⟩⟩; refine ⟨_, rfl, ?_⟩) | ((with_reducible refine gC 61 rfl ?_); refine goesL_ (some 13) rfl rfl Tryd.func61 (by kernel_rfl) rfl #[.int .i64 a0_0] rfl yA ?_; (with_reducible refine (typed_known.calls _ _ _ _ A3.out).mono ?_); rintro e w12 ⟨rfl, hb⟩; refine ⟨_, rfl, ?_⟩; replace BK346 := am (bB (kB BK346) hb); replace HB := am (below_step (kL HB) hb)))
   go_ret
   exact ⟨yE, (kL HB)⟩
 ·replace c4 := Bool.eq_false_iff.mpr c4
  subst c4
  rw [if_neg (show ¬ (false = true) by decide)] at H
  obtain rfl := Option.some.inj H
  go_enter Tryd.func38, Tryd.ntmps38
  go_wp2_with (first | ((with_reducible refine gD 1 rfl ?_); (try (refine gate_guard (by rfl) ?_; dsimp only)); refine bx 1 #[.int .i64 a0_0, .slice A0_1 l0_1.length c0_1, .string a0_2] 39 ?_; intro gb346 hg w13 hbox hb; have BK346 := am hbox; have GW346 := am (geL hg (kL HB)); replace HB := am (below_step (kL HB) hb); have GE346 := GW346; clear hb hbox hg; obtain ⟨hcz14_0, hcz14_1, hcz14_2, hfz14_0, hfz14_1, hfz14_2⟩ := bk3 BK346.out) | ((with_reducible refine gC 56 rfl ?_); refine goesL_ (some 8) rfl rfl Tryd.func56 (by kernel_rfl) rfl #[.slice A0_1 l0_1.length c0_1] rfl yA ?_; (with_reducible refine (shape_Size.calls _ _ _ _ _ _ _ ?side1 ?side2 A2.out).mono ?_); (case side1 => exact Kd.C_below HR0_1.out (kL HB)); (case side2 => exact HC0_1.out); rintro e w' ⟨rfl, ⟨nd, rfl⟩⟩; refine ⟨_, rfl, ?_⟩) | ((with_reducible refine gC 61 rfl ?_); refine goesL_ (some 13) rfl rfl Tryd.func61 (by kernel_rfl) rfl #[.int .i64 a0_0] rfl yA ?_; (with_reducible refine (typed_known.calls _ _ _ _ A3.out).mono ?_); rintro e w15 ⟨rfl, hb⟩; refine ⟨_, rfl, ?_⟩; replace BK346 := am (bB (kB BK346) hb); replace HB := am (below_step (kL HB) hb)))
  go_ret
  exact ⟨yE, (kL HB)⟩
def typed_Typed_Many.f (k : Nat) (a0_0 : Int) (l0_1 : List Int) (a0_2 : ByteArray) : Option (Int) := (typed_Typed_May.f k a0_0 l0_1 a0_2).bind fun t351 => (if t351 = true then (if a0_0 = 0 then (none) else (some (wrap64 (Int.tdiv (wrap64 ((a0_2.size : Int) * 8)) a0_0)))) else (some 0))
theorem typed_Typed_Many.mono : ∀ a0 a1 a2 k, LeO (typed_Typed_Many.f k a0 a1 a2) (typed_Typed_Many.f (k + 1) a0 a1 a2) := by
 intro a0 a1 a2 k
 unfold typed_Typed_Many.f
 with_reducible repeat' first
   | exact typed_Typed_May.mono _ _ _ _
   | exact LeO.refl _
   | exact LeO.none _
   | refine LeO.ite ?_ ?_
   | refine LeO.bind ?_ (fun _ => ?_)
set_option maxHeartbeats 8000000 in
set_option maxRecDepth 100000 in
theorem typed_Typed_Many.calls (k : Nat) (a0_0 : Int) (A0_1 : Option Addr) (c0_1 : Nat) (l0_1 : List Int) (a0_2 : ByteArray) (r : Int) (w : World) (hr0_1 : Kd.C (Kd.int .i64) w A0_1 l0_1.length l0_1) (hc0_1 : l0_1.length ≤ c0_1) (h : typed_Typed_Many.f k a0_0 l0_1 a0_2 = some r) :
  Calls Tryd.prog 30 #[.agg #[.int .i64 a0_0, .slice A0_1 l0_1.length c0_1, .string a0_2]] w fun e w' => e = .returned (.int .i64 r) ∧ Below w.heap.size w w' := by
 have hu39 := Tryd.underlying39
 have HR0_1 := am hr0_1
 have HC0_1 := am hc0_1
 clear hr0_1 hc0_1
 have HB := am (Below.refl w.heap.size w)
 unfold typed_Typed_Many.f at h
 have H := h
 clear h
 obtain ⟨t351, A2, H⟩ := bO H
 try dsimp only at H
 by_cases c3 : t351 = true
 ·subst c3
  rw [if_pos rfl] at H
  by_cases c4 : a0_0 = 0
  ·rw [if_pos c4] at H
   exact absurd H (by simp)
  ·rw [if_neg c4] at H
   have c4b0 := eF c4
   have c4b1 := nT c4
   obtain rfl := Option.some.inj H
   go_enter Tryd.func30, Tryd.ntmps30
   go_wp2_with (first | ((with_reducible refine gD 1 rfl ?_); refine bx 1 #[.int .i64 a0_0, .slice A0_1 l0_1.length c0_1, .string a0_2] 39 ?_; intro gb350 hg w5 hbox hb; have BK350 := am hbox; have GW350 := am (geL hg (kL HB)); replace HB := am (below_step (kL HB) hb); have GE350 := GW350; clear hb hbox hg; obtain ⟨hcz6_0, hcz6_1, hcz6_2, hfz6_0, hfz6_1, hfz6_2⟩ := bk3 BK350.out) | ((with_reducible refine gC 38 rfl ?_); refine goesL_ (some 4) rfl rfl Tryd.func38 (by kernel_rfl) rfl #[.agg #[.int .i64 a0_0, .slice A0_1 l0_1.length c0_1, .string a0_2]] rfl yA ?_; (with_reducible refine (typed_Typed_May.calls _ _ _ _ _ _ _ _ ?side1 ?side2 A2.out).mono ?_); (case side1 => exact Kd.C_below HR0_1.out (kL HB)); (case side2 => exact HC0_1.out); rintro e w7 ⟨rfl, hb⟩; refine ⟨_, rfl, ?_⟩; replace BK350 := am (bB (kB BK350) hb); replace HB := am (below_step (kL HB) hb); (try clear hb); obtain ⟨hcz8_0, hcz8_1, hcz8_2, hfz8_0, hfz8_1, hfz8_2⟩ := bk3 BK350.out))
   go_ret
   exact ⟨yE, (kL HB)⟩
 ·replace c3 := Bool.eq_false_iff.mpr c3
  subst c3
  rw [if_neg (show ¬ (false = true) by decide)] at H
  obtain rfl := Option.some.inj H
  go_enter Tryd.func30, Tryd.ntmps30
  go_wp2_with (first | ((with_reducible refine gD 1 rfl ?_); refine bx 1 #[.int .i64 a0_0, .slice A0_1 l0_1.length c0_1, .string a0_2] 39 ?_; intro gb350 hg w9 hbox hb; have BK350 := am hbox; have GW350 := am (geL hg (kL HB)); replace HB := am (below_step (kL HB) hb); have GE350 := GW350; clear hb hbox hg; obtain ⟨hcz10_0, hcz10_1, hcz10_2, hfz10_0, hfz10_1, hfz10_2⟩ := bk3 BK350.out) | ((with_reducible refine gC 38 rfl ?_); refine goesL_ (some 4) rfl rfl Tryd.func38 (by kernel_rfl) rfl #[.agg #[.int .i64 a0_0, .slice A0_1 l0_1.length c0_1, .string a0_2]] rfl yA ?_; (with_reducible refine (typed_Typed_May.calls _ _ _ _ _ _ _ _ ?side1 ?side2 A2.out).mono ?_); (case side1 => exact Kd.C_below HR0_1.out (kL HB)); (case side2 => exact HC0_1.out); rintro e w11 ⟨rfl, hb⟩; refine ⟨_, rfl, ?_⟩; replace BK350 := am (bB (kB BK350) hb); replace HB := am (below_step (kL HB) hb); (try clear hb)))
  go_ret
  exact ⟨yE, (kL HB)⟩
def typed_get.l0 : Nat → ByteArray → Int → Int → Int → Option (Int)
 | 0, _, _, _, _ => none
 | k + 1, x0, x3, x11, x12 => if x12 < x11 then (if 0 ≤ (wrap64 (x12 + 1)) then (if (wrap64 (x12 + 1)) < (x0.size : Int) then (typed_get.l0 k x0 (Go.bits .or .i64 (wrap64 (x3 * 256)) (wrap64 (bt x0 (wrap64 (x12 + 1))))) x11 (wrap64 (x12 + 1))) else (none)) else (none)) else (some x3)
def typed_get.f (k : Nat) (a0 : ByteArray) : Option (Int) := if 0 < (a0.size : Int) then (typed_get.l0 k a0 (wrap64 (IntKind.i8.wrap (bt a0 0))) (wrap64 ((a0.size : Int) - 1)) 0) else (none)
theorem typed_get.mono_l : ∀ k, (∀ y0 y1 y2 y3, LeO (typed_get.l0 k y0 y1 y2 y3) (typed_get.l0 (k + 1) y0 y1 y2 y3))
 | 0 => fun _ _ _ _ r h => by simp [typed_get.l0] at h
 | k + 1 => by
  have ih0 := typed_get.mono_l k
  ·intro y0 y1 y2 y3
   unfold typed_get.l0
   with_reducible repeat' first
   | exact ih0 _ _ _ _
   | exact LeO.refl _
   | exact LeO.none _
   | refine LeO.ite ?_ ?_
   | refine LeO.bind ?_ (fun _ => ?_)
theorem typed_get.mono : ∀ a0 k, LeO (typed_get.f k a0) (typed_get.f (k + 1) a0) := by
 intro a0 k
 have ih0 := typed_get.mono_l k
 unfold typed_get.f
 with_reducible repeat' first
   | exact ih0 _ _ _ _
   | exact LeO.refl _
   | exact LeO.none _
   | refine LeO.ite ?_ ?_
   | refine LeO.bind ?_ (fun _ => ?_)
set_option maxHeartbeats 8000000 in
set_option maxRecDepth 100000 in
theorem typed_get.calls (k : Nat) (a0 : ByteArray) (r : Int) (w : World) (h : typed_get.f k a0 = some r) :
  Calls Tryd.prog 67 #[.string a0] w fun e w' => e = .returned (.int .i64 r) ∧ Drawn0 w w' := by
 unfold typed_get.f at h
 have H := h
 clear h
 by_cases c2 : 0 < (a0.size : Int)
 ·rw [if_pos c2] at H
  have c2b0 : decide (0 < (a0.size : Int)) = true := decide_eq_true c2
  have c2b1 : decide (0 < a0.size) = true := decide_eq_true (by omega)
  clear c2
  have H' := am H
  clear H
  have p3 : 0 ≤ (0 : Int) := (by omega)
  have q3 : 0 < a0.size := (by have : (0 : Int) < (a0.size : Int) := of_decide_eq_true yY; omega)
  have hx3 : ∀ h : 0 < a0.size, ((a0[0]'h).toNat : Int) = bt a0 0 := bt_at a0 0
  clear p3
  have qi3 : (0 < (a0.size : Int)) = True := eq_true (of_decide_eq_true yY)
  replace q3 := eq_true q3
  go_enter Tryd.func67, Tryd.ntmps67
  go_wp2
  go_loopg [3, 12] k (fun kq v3 v12 w' => ∃ (x3_1 : Int) (x12_1 : Int), v3 = .int .i64 x3_1 ∧ v12 = .int .i64 x12_1 ∧ Aside0 (typed_get.l0 kq a0 x3_1 (wrap64 ((a0.size : Int) - 1)) x12_1 = some r) ∧ Aside0 (kq ≤ k) ∧ Drawn0 w w')
  case atStart => exact ⟨(wrap64 (IntKind.i8.wrap (bt a0 0))), (0), yS, yS, H', ⟨Nat.le_refl _⟩, by repeat (first | exact Drawn0.refl _ | apply Drawn0.step)⟩
  case round =>
   clear H'
   try clear c2
   try clear c2b0
   try clear c2b1
   try clear p2
   try clear p3
   try clear q3
   try clear hx3
   try clear qi3
   try clear p3
   try clear q3
   obtain ⟨x3_1, x12_1, rfl, rfl, HA, HK1, ⟨m1, rfl⟩⟩ := hrel
   cases gk with
   | zero => exact absurd HA.out (by simp [typed_get.l0])
   | succ k1 =>
    have H := HA.out
    clear HA
    simp only [typed_get.l0] at H
    by_cases c4 : x12_1 < (wrap64 ((a0.size : Int) - 1))
    ·rw [if_pos c4] at H
     have c4b0 : decide (x12_1 < (wrap64 ((a0.size : Int) - 1))) = true := decide_eq_true c4
     clear c4
     obtain ⟨ji5, hji5⟩ : ∃ j_ : Int, (wrap64 (x12_1 + 1)) = j_ := ⟨_, rfl⟩
     replace H : (if 0 ≤ (ji5) then (if (ji5) < (a0.size : Int) then (typed_get.l0 k1 a0 (Go.bits .or .i64 (wrap64 (x3_1 * 256)) (wrap64 (bt a0 (ji5)))) (wrap64 ((a0.size : Int) - 1)) ji5) else (none)) else (none)) = some r := by first | (rw [hji5] at H; exact H) | (simp only [hji5] at H ⊢; exact H)
     have hji5w : (IntKind.i64.wrap (x12_1 + 1)) = ji5 := (i64_w _).trans hji5
     by_cases c6 : 0 ≤ (ji5)
     ·rw [if_pos c6] at H
      have c6b0 : decide (0 ≤ (ji5)) = true := decide_eq_true c6
      clear c6
      by_cases c7 : (ji5) < (a0.size : Int)
      ·rw [if_pos c7] at H
       have c7b0 : decide ((ji5) < (a0.size : Int)) = true := decide_eq_true c7
       clear c7
       have H' := am H
       clear H
       have p8 : 0 ≤ ((ji5) : Int) := of_decide_eq_true yY
       have q8 : (ji5) < (a0.size : Int) := of_decide_eq_true yY
       have hx8 := bt_at a0 (ji5)
       replace p8 := eq_true p8
       replace q8 := eq_true q8
       go_wp2
       go_roundg k1
       case measure => have := HK1.out; omega
       case rel => exact ⟨(Go.bits .or .i64 (wrap64 (x3_1 * 256)) (wrap64 (bt a0 (ji5)))), (ji5), (by first | rfl | (simp; done) | (simp only [← hji5] <;> (first | rfl | simp)) | (simp [*]; done)), (by first | rfl | (simp; done) | (simp only [← hji5] <;> (first | rfl | simp)) | (simp [*]; done)), H', ⟨by have := HK1.out; omega⟩, by repeat (first | exact Drawn0.refl _ | apply Drawn0.step)⟩
      ·rw [if_neg c7] at H
       exact absurd H (by simp)
     ·rw [if_neg c6] at H
      exact absurd H (by simp)
    ·rw [if_neg c4] at H
     have c4b0 : decide (x12_1 < (wrap64 ((a0.size : Int) - 1))) = false := decide_eq_false c4
     clear c4
     obtain rfl := Option.some.inj H
     go_wp2
     go_ret
     exact ⟨yS, by repeat (first | exact Drawn0.refl _ | apply Drawn0.step)⟩
 ·rw [if_neg c2] at H
  exact absurd H (by simp)
end Go.Proofs.YthcijldahbalcaaDoor.P
end
