/- What the law TreeTells rests on, part 2. -/
import Derived.Test.YtdelccahgchadaaKTreeTells0
import Derived.Shelf.Strings.Builder1
import Derived.Shelf.Strings.Builder2
import Derived.Shelf.Strings.OnBuilder
import Derived.Shelf.Small.Strs
import Derived.Shelf.Strings.Search1
import Derived.Shelf.Strings.Search2
import Derived.Shelf.Strings.Search3
import Derived.Shelf.LaysM
import Derived.Shelf.Strings.Shaped
import Derived.Shelf.GgClosure.StringsIndexFunc
import Derived.Ground.GgwProg
import Derived.Shelf.GgClosure.StringsIndexFuncTop
import Derived.Shelf.GgClosure.StringsRunes
import Derived.Shelf.Strings.Prefix
import Derived.Shelf.Strings.FuncGrows
import Derived.Shelf.Abstract
import Derived.WalkSpells
import Derived.WalkLawsBesides
import Derived.Laws.RangeAny
import Derived.Lib.IndexAny
set_option linter.unusedVariables false
set_option linter.unusedSimpArgs false
section
namespace Go.Proofs
open Go.Shelf
def Try.lays169_ren : Go.Shelf.Ren := ⟨fun | 169 => 118 | n => n, fun | 70 => 116 | 9 => 9 | 0 => 0 | 72 => 119 | 37 => 117 | 127 => 126 | 3 => 3 | 5 => 5 | n => n, fun | n => n⟩
theorem Try.lays169 : Go.Proofs.Lays.n169 Try.prog Try.lays169_ren := {
  mixed := by kernel_rfl
  f169 := Try.func118.trans (congrArg some (by kernel_rfl))
  t0 := Try.underlying0
  a0 := Try.isAgg0
  z0 := Try.sizeOf0
  v0 := Try.zeroValue0
  t3 := Try.underlying3
  a3 := Try.isAgg3
  z3 := Try.sizeOf3
  v3 := Try.zeroValue3
  t9 := Try.underlying9
  a9 := Try.isAgg9
  z9 := Try.sizeOf9
  v9 := Try.zeroValue9
  t37 := Try.underlying117
  a37 := Try.isAgg117
  z37 := Try.sizeOf117
  v37 := Try.zeroValue117
  t70 := Try.underlying116
  a70 := Try.isAgg116
  z70 := Try.sizeOf116
  v70 := Try.zeroValue116
  t72 := Try.underlying119
  a72 := Try.isAgg119
  z72 := Try.sizeOf119
  v72 := Try.zeroValue119
  t127 := Try.underlying126
  a127 := Try.isAgg126
  z127 := Try.sizeOf126
  v127 := Try.zeroValue126 }
theorem Try.Builder_Extra_169 : Builder.Extra Try.prog Try.lays169_ren := {
  sizeBuilder := by kernel_rfl
  liesBuilder := by kernel_rfl
  t5 := Try.underlying5
  a5 := Try.isAgg5
  z5 := Try.sizeOf5
  v5 := Try.zeroValue5
  infoByte := by kernel_rfl
  cellsByte := by kernel_rfl
  sizeByte := by kernel_rfl
  neB5 := by decide }
open Go.RowKit in
theorem Try.Builder_String (B b : Nat) (l : List UInt8) (w : World) (h : Lib.IsBuilder 119 5 B b (Lib.byteCells l) w) (h0 : l ≠ []) :
    Calls Try.prog 118 #[.pointer (some ⟨b, 0, none⟩)] w fun e w' => e = .returned (.string ⟨l.toArray⟩) ∧ Below B w w' := Any.Builder_String Try.lays169 Try.Builder_Extra_169 B b l w h h0
open Go.RowKit in
theorem Try.Builder_String_empty (B b : Nat) (w : World) (h : Lib.IsBuilder 119 5 B b [] w) (hBw : B ≤ w.heap.size) :
    Calls Try.prog 118 #[.pointer (some ⟨b, 0, none⟩)] w fun e w' => e = .returned (.string ⟨#[]⟩) ∧ Below B w w' := Any.Builder_String_empty Try.lays169 Try.Builder_Extra_169 B b w h hBw
open Go.RowKit in
theorem Try.Builder_String_any (B b : Nat) (l : List UInt8) (w : World) (h : Lib.IsBuilder 119 5 B b (Lib.byteCells l) w) (hBw : B ≤ w.heap.size) :
    Calls Try.prog 118 #[.pointer (some ⟨b, 0, none⟩)] w fun e w' => e = .returned (.string ⟨l.toArray⟩) ∧ Below B w w' := Any.Builder_String_any Try.lays169 Try.Builder_Extra_169 B b l w h hBw
def Try.lays241_ren : Go.Shelf.Ren := ⟨fun | 241 => 126 | 277 => 132 | n => n, fun | 70 => 116 | 3 => 3 | 0 => 0 | 72 => 119 | 37 => 117 | 5 => 5 | n => n, fun | n => n⟩
theorem Try.lays241 : Go.Proofs.Lays.n241 Try.prog Try.lays241_ren := {
  mixed := by kernel_rfl
  f241 := Try.func126.trans (congrArg some (by kernel_rfl))
  f277 := Try.func132.trans (congrArg some (by kernel_rfl))
  t0 := Try.underlying0
  a0 := Try.isAgg0
  z0 := Try.sizeOf0
  v0 := Try.zeroValue0
  t3 := Try.underlying3
  a3 := Try.isAgg3
  z3 := Try.sizeOf3
  v3 := Try.zeroValue3
  t37 := Try.underlying117
  a37 := Try.isAgg117
  z37 := Try.sizeOf117
  v37 := Try.zeroValue117
  t70 := Try.underlying116
  a70 := Try.isAgg116
  z70 := Try.sizeOf116
  v70 := Try.zeroValue116
  t72 := Try.underlying119
  a72 := Try.isAgg119
  z72 := Try.sizeOf119
  v72 := Try.zeroValue119 }
theorem Try.Builder_Extra_241 : Builder.Extra Try.prog Try.lays241_ren := {
  sizeBuilder := by kernel_rfl
  liesBuilder := by kernel_rfl
  t5 := Try.underlying5
  a5 := Try.isAgg5
  z5 := Try.sizeOf5
  v5 := Try.zeroValue5
  infoByte := by kernel_rfl
  cellsByte := by kernel_rfl
  sizeByte := by kernel_rfl
  neB5 := by decide }
open Go.RowKit in
theorem Try.Builder_grow_fresh (B b n : Nat) (w : World) (hB : B ≤ b) (hbk : w.heap[b]? = some (.cells #[.pointer (some ⟨b, 0, none⟩), .slice none 0 0] 119 (0, 0))) (hBw : B ≤ w.heap.size) (hn : n ≤ 281474976710656) :
    Calls Try.prog 126 #[.pointer (some ⟨b, 0, none⟩), .int .i64 n] w fun e w' => e = .returned (.tuple #[]) ∧ (Lib.BuilderAt 119 5 B b (.pointer (some ⟨b, 0, none⟩)) [] w' ∧ Below B w w') := Any.Builder_grow_fresh Try.lays241 Try.Builder_Extra_241 B b n w hB hbk hBw hn
def Try.lays165_ren : Go.Shelf.Ren := ⟨fun | 165 => 116 | 240 => 125 | 241 => 126 | 276 => 131 | 277 => 132 | n => n, fun | 70 => 116 | 3 => 3 | 0 => 0 | 4 => 4 | 9 => 9 | 20 => 20 | 72 => 119 | 37 => 117 | 164 => 129 | 5 => 5 | n => n, fun | n => n⟩
theorem Try.lays165 : Go.Proofs.Lays.n165 Try.prog Try.lays165_ren := {
  mixed := by kernel_rfl
  f165 := Try.func116.trans (congrArg some (by kernel_rfl))
  f240 := Try.func125.trans (congrArg some (by kernel_rfl))
  f241 := Try.func126.trans (congrArg some (by kernel_rfl))
  f276 := Try.func131.trans (congrArg some (by kernel_rfl))
  f277 := Try.func132.trans (congrArg some (by kernel_rfl))
  t0 := Try.underlying0
  a0 := Try.isAgg0
  z0 := Try.sizeOf0
  v0 := Try.zeroValue0
  t3 := Try.underlying3
  a3 := Try.isAgg3
  z3 := Try.sizeOf3
  v3 := Try.zeroValue3
  t4 := Try.underlying4
  a4 := Try.isAgg4
  z4 := Try.sizeOf4
  v4 := Try.zeroValue4
  t9 := Try.underlying9
  a9 := Try.isAgg9
  z9 := Try.sizeOf9
  v9 := Try.zeroValue9
  t20 := Try.underlying20
  a20 := Try.isAgg20
  z20 := Try.sizeOf20
  v20 := Try.zeroValue20
  t37 := Try.underlying117
  a37 := Try.isAgg117
  z37 := Try.sizeOf117
  v37 := Try.zeroValue117
  t70 := Try.underlying116
  a70 := Try.isAgg116
  z70 := Try.sizeOf116
  v70 := Try.zeroValue116
  t72 := Try.underlying119
  a72 := Try.isAgg119
  z72 := Try.sizeOf119
  v72 := Try.zeroValue119
  t164 := Try.underlying129
  a164 := Try.isAgg129
  z164 := Try.sizeOf129
  v164 := Try.zeroValue129 }
theorem Try.Builder_Extra_165 : Builder.Extra Try.prog Try.lays165_ren := {
  sizeBuilder := by kernel_rfl
  liesBuilder := by kernel_rfl
  t5 := Try.underlying5
  a5 := Try.isAgg5
  z5 := Try.sizeOf5
  v5 := Try.zeroValue5
  infoByte := by kernel_rfl
  cellsByte := by kernel_rfl
  sizeByte := by kernel_rfl
  neB5 := by decide }
open Go.RowKit in
theorem Try.Builder_Grow_fresh (B b n : Nat) (w : World) (hB : B ≤ b) (hbk : w.heap[b]? = some (.cells #[.pointer none, .slice none 0 0] 119 (0, 0))) (hBw : B ≤ w.heap.size) (hn : n ≤ 281474976710656) :
    Calls Try.prog 116 #[.pointer (some ⟨b, 0, none⟩), .int .i64 n] w fun e w' => e = .returned (.tuple #[]) ∧ (Lib.BuilderAt 119 5 B b (.pointer (some ⟨b, 0, none⟩)) [] w' ∧ Below B w w') := Any.Builder_Grow_fresh Try.lays165 Try.Builder_Extra_165 B b n w hB hbk hBw hn
def Try.lays156_ren : Go.Shelf.Ren := ⟨fun | 156 => 103 | 165 => 116 | 166 => 117 | 169 => 118 | 240 => 125 | 241 => 126 | 276 => 131 | 277 => 132 | n => n, fun | 31 => 23 | 9 => 9 | 3 => 3 | 4 => 4 | 0 => 0 | 20 => 20 | 72 => 119 | 76 => 123 | 70 => 116 | 37 => 117 | 75 => 122 | 127 => 126 | 164 => 129 | 5 => 5 | 80 => 75 | n => n, fun | n => n⟩
theorem Try.lays156 : Go.Proofs.Lays.n156 Try.prog Try.lays156_ren := {
  mixed := by kernel_rfl
  f156 := Try.func103.trans (congrArg some (by kernel_rfl))
  f165 := Try.func116.trans (congrArg some (by kernel_rfl))
  f166 := Try.func117.trans (congrArg some (by kernel_rfl))
  f169 := Try.func118.trans (congrArg some (by kernel_rfl))
  f240 := Try.func125.trans (congrArg some (by kernel_rfl))
  f241 := Try.func126.trans (congrArg some (by kernel_rfl))
  f276 := Try.func131.trans (congrArg some (by kernel_rfl))
  f277 := Try.func132.trans (congrArg some (by kernel_rfl))
  t0 := Try.underlying0
  a0 := Try.isAgg0
  z0 := Try.sizeOf0
  v0 := Try.zeroValue0
  t3 := Try.underlying3
  a3 := Try.isAgg3
  z3 := Try.sizeOf3
  v3 := Try.zeroValue3
  t4 := Try.underlying4
  a4 := Try.isAgg4
  z4 := Try.sizeOf4
  v4 := Try.zeroValue4
  t9 := Try.underlying9
  a9 := Try.isAgg9
  z9 := Try.sizeOf9
  v9 := Try.zeroValue9
  t20 := Try.underlying20
  a20 := Try.isAgg20
  z20 := Try.sizeOf20
  v20 := Try.zeroValue20
  t31 := Try.underlying23
  a31 := Try.isAgg23
  z31 := Try.sizeOf23
  v31 := Try.zeroValue23
  t37 := Try.underlying117
  a37 := Try.isAgg117
  z37 := Try.sizeOf117
  v37 := Try.zeroValue117
  t70 := Try.underlying116
  a70 := Try.isAgg116
  z70 := Try.sizeOf116
  v70 := Try.zeroValue116
  t72 := Try.underlying119
  a72 := Try.isAgg119
  z72 := Try.sizeOf119
  v72 := Try.zeroValue119
  t75 := Try.underlying122
  a75 := Try.isAgg122
  z75 := Try.sizeOf122
  v75 := Try.zeroValue122
  t76 := Try.underlying123
  a76 := Try.isAgg123
  z76 := Try.sizeOf123
  v76 := Try.zeroValue123
  t127 := Try.underlying126
  a127 := Try.isAgg126
  z127 := Try.sizeOf126
  v127 := Try.zeroValue126
  t164 := Try.underlying129
  a164 := Try.isAgg129
  z164 := Try.sizeOf129
  v164 := Try.zeroValue129 }
theorem Try.Builder_Extra_156 : Builder.Extra Try.prog Try.lays156_ren := {
  sizeBuilder := by kernel_rfl
  liesBuilder := by kernel_rfl
  t5 := Try.underlying5
  a5 := Try.isAgg5
  z5 := Try.sizeOf5
  v5 := Try.zeroValue5
  infoByte := by kernel_rfl
  cellsByte := by kernel_rfl
  sizeByte := by kernel_rfl
  neB5 := by decide }
open Go.RowKit in
theorem Try.strings_Join_none (a : Option Addr) (c : Nat) (sep : ByteArray) (w : World) :
    Calls Try.prog 103 #[.slice a 0 c, .string sep] w fun e w' => e = .returned (.string ⟨#[]⟩) ∧ w' = w := Any.strings_Join_none Try.lays156 Try.Builder_Extra_156 a c sep w
open Go.RowKit in
theorem Try.strings_Join (bk o c : Nat) (xs : List ByteArray) (sep : ByteArray) (w : World) (hcells : ∀ (j : Nat) x, xs[j]? = some x → w.cell? ⟨bk, o + j, none⟩ = some (.string x)) (hbk : bk < w.heap.size) (hN : xs.length ≤ 140737488355328) (hcap : xs.length ≤ c) (hlen : (Lib.join (xs.map (·.data.toList)) sep.data.toList).length ≤ 140737488355328) :
    Calls Try.prog 103 #[.slice (some ⟨bk, o, none⟩) xs.length c, .string sep] w fun e w' => e = .returned (.string ⟨(Lib.join (xs.map (·.data.toList)) sep.data.toList).toArray⟩) ∧ Below w.heap.size w w' := Any.strings_Join Try.lays156 Try.Builder_Extra_156 bk o c xs sep w hcells hbk hN hcap hlen
def Try.lays137_ren : Go.Shelf.Ren := ⟨fun | 137 => 90 | 217 => 109 | 266 => 122 | n => n, fun | 9 => 9 | 5 => 5 | 3 => 3 | n => n, fun | n => n⟩
theorem Try.lays137 : Go.Proofs.Lays.n137 Try.prog Try.lays137_ren := {
  mixed := by kernel_rfl
  f137 := Try.func90.trans (congrArg some (by kernel_rfl))
  f217 := Try.func109.trans (congrArg some (by kernel_rfl))
  f266 := Try.func122.trans (congrArg some (by kernel_rfl))
  t3 := Try.underlying3
  a3 := Try.isAgg3
  z3 := Try.sizeOf3
  v3 := Try.zeroValue3
  t5 := Try.underlying5
  a5 := Try.isAgg5
  z5 := Try.sizeOf5
  v5 := Try.zeroValue5
  t9 := Try.underlying9
  a9 := Try.isAgg9
  z9 := Try.sizeOf9
  v9 := Try.zeroValue9 }
open Go.RowKit in
theorem Try.strings_IndexByte (s : ByteArray) (c : Int) (w : World) :
    Calls Try.prog 90 #[.string s, .int .u8 c] w fun e w' => e = .returned (.int .i64 (Lib.indexByte s.data.toList c.toNat.toUInt8)) ∧ w' = w := Any.strings_IndexByte Try.lays137 s c w
def Try.lays217_ren : Go.Shelf.Ren := ⟨fun | 217 => 109 | 266 => 122 | n => n, fun | 9 => 9 | 5 => 5 | 3 => 3 | n => n, fun | n => n⟩
theorem Try.lays217 : Go.Proofs.Lays.n217 Try.prog Try.lays217_ren := {
  mixed := by kernel_rfl
  f217 := Try.func109.trans (congrArg some (by kernel_rfl))
  f266 := Try.func122.trans (congrArg some (by kernel_rfl))
  t3 := Try.underlying3
  a3 := Try.isAgg3
  z3 := Try.sizeOf3
  v3 := Try.zeroValue3
  t5 := Try.underlying5
  a5 := Try.isAgg5
  z5 := Try.sizeOf5
  v5 := Try.zeroValue5
  t9 := Try.underlying9
  a9 := Try.isAgg9
  z9 := Try.sizeOf9
  v9 := Try.zeroValue9 }
open Go.RowKit Go.Lib in
theorem Try.stringslite_IndexByte (s : ByteArray) (c : Int) (w : World) :
    Calls Try.prog 109 #[.string s, .int .u8 c] w fun e w' => e = .returned (.int .i64 (Lib.indexByte s.data.toList c.toNat.toUInt8)) ∧ w' = w := Any.stringslite_IndexByte Try.lays217 s c w
def Try.lays224_ren : Go.Shelf.Ren := ⟨fun | 224 => 128 | n => n, fun | 3 => 3 | n => n, fun | n => n⟩
theorem Try.lays224 : Go.Proofs.Lays.n224 Try.prog Try.lays224_ren := {
  mixed := by kernel_rfl
  f224 := Try.func128.trans (congrArg some (by kernel_rfl))
  t3 := Try.underlying3
  a3 := Try.isAgg3
  z3 := Try.sizeOf3
  v3 := Try.zeroValue3 }
open Go.RowKit Go.Lib in
theorem Try.bytealg_Cutover (n : Int) (h0 : 0 ≤ n) (h1 : n < 4611686018427387904) (w : World) :
    Calls Try.prog 128 #[.int .i64 n] w fun e w' => e = .returned (.int .i64 ((n + 16) / 8)) ∧ w' = w := Any.bytealg_Cutover Try.lays224 n h0 h1 w
def Try.lays314_ren : Go.Shelf.Ren := ⟨fun | 314 => 133 | n => n, fun | 9 => 9 | 51 => 132 | 3 => 3 | 4 => 4 | 5 => 5 | 46 => 128 | n => n, fun | n => n⟩
theorem Try.lays314 : Go.Proofs.Lays.n314 Try.prog Try.lays314_ren := {
  mixed := by kernel_rfl
  f314 := Try.func133.trans (congrArg some (by kernel_rfl))
  t3 := Try.underlying3
  a3 := Try.isAgg3
  z3 := Try.sizeOf3
  v3 := Try.zeroValue3
  t4 := Try.underlying4
  a4 := Try.isAgg4
  z4 := Try.sizeOf4
  v4 := Try.zeroValue4
  t5 := Try.underlying5
  a5 := Try.isAgg5
  z5 := Try.sizeOf5
  v5 := Try.zeroValue5
  t9 := Try.underlying9
  a9 := Try.isAgg9
  z9 := Try.sizeOf9
  v9 := Try.zeroValue9
  t46 := Try.underlying128
  a46 := Try.isAgg128
  z46 := Try.sizeOf128
  v46 := Try.zeroValue128
  t51 := Try.underlying132
  a51 := Try.isAgg132
  z51 := Try.sizeOf132
  v51 := Try.zeroValue132 }
open Go.RowKit Go.Lib in
theorem Try.bytealg_hashStr (sep : ByteArray) (hs : sep.size < 4294967281) (w : World) :
    Calls Try.prog 133 #[.string sep] w fun e w' => e = .returned (.tuple #[.int .u32 (RK.H sep.data.toList % 4294967296), .int .u32 (16777619 ^ sep.size % 4294967296)]) ∧ w' = w := Any.bytealg_hashStr Try.lays314 sep hs w
def Try.lays267_ren : Go.Shelf.Ren := ⟨fun | 267 => 129 | 314 => 133 | n => n, fun | 9 => 9 | 3 => 3 | 146 => 133 | 51 => 132 | 4 => 4 | 5 => 5 | 46 => 128 | n => n, fun | n => n⟩
theorem Try.lays267 : Go.Proofs.Lays.n267 Try.prog Try.lays267_ren := {
  mixed := by kernel_rfl
  f267 := Try.func129.trans (congrArg some (by kernel_rfl))
  f314 := Try.func133.trans (congrArg some (by kernel_rfl))
  t3 := Try.underlying3
  a3 := Try.isAgg3
  z3 := Try.sizeOf3
  v3 := Try.zeroValue3
  t4 := Try.underlying4
  a4 := Try.isAgg4
  z4 := Try.sizeOf4
  v4 := Try.zeroValue4
  t5 := Try.underlying5
  a5 := Try.isAgg5
  z5 := Try.sizeOf5
  v5 := Try.zeroValue5
  t9 := Try.underlying9
  a9 := Try.isAgg9
  z9 := Try.sizeOf9
  v9 := Try.zeroValue9
  t46 := Try.underlying128
  a46 := Try.isAgg128
  z46 := Try.sizeOf128
  v46 := Try.zeroValue128
  t51 := Try.underlying132
  a51 := Try.isAgg132
  z51 := Try.sizeOf132
  v51 := Try.zeroValue132
  t146 := Try.underlying133
  a146 := Try.isAgg133
  z146 := Try.sizeOf133
  v146 := Try.zeroValue133 }
open Go.RowKit Go.Lib in
theorem Try.bytealg_IndexRabinKarp (s sep : ByteArray) (h1 : 1 ≤ sep.size) (h2 : sep.size ≤ s.size) (hs : s.size < 4294967281) (w : World) :
    Calls Try.prog 129 #[.string s, .string sep] w fun e w' => e = .returned (.int .i64 (Lib.index s.data.toList sep.data.toList)) ∧ w' = w := Any.bytealg_IndexRabinKarp Try.lays267 s sep h1 h2 hs w
def Try.lays219_ren : Go.Shelf.Ren := ⟨fun | 219 => 121 | 217 => 109 | 225 => 127 | 224 => 128 | 267 => 129 | 266 => 122 | 314 => 133 | n => n, fun | 9 => 9 | 3 => 3 | 4 => 4 | 5 => 5 | 46 => 128 | 146 => 133 | 51 => 132 | n => n, fun | 1 => 0 | n => n⟩
theorem Try.lays219 : Go.Proofs.Lays.n219 Try.prog Try.lays219_ren := {
  mixed := by kernel_rfl
  f217 := Try.func109.trans (congrArg some (by kernel_rfl))
  f219 := Try.func121.trans (congrArg some (by kernel_rfl))
  f224 := Try.func128.trans (congrArg some (by kernel_rfl))
  f225 := Try.func127.trans (congrArg some (by kernel_rfl))
  f266 := Try.func122.trans (congrArg some (by kernel_rfl))
  f267 := Try.func129.trans (congrArg some (by kernel_rfl))
  f314 := Try.func133.trans (congrArg some (by kernel_rfl))
  t3 := Try.underlying3
  a3 := Try.isAgg3
  z3 := Try.sizeOf3
  v3 := Try.zeroValue3
  t4 := Try.underlying4
  a4 := Try.isAgg4
  z4 := Try.sizeOf4
  v4 := Try.zeroValue4
  t5 := Try.underlying5
  a5 := Try.isAgg5
  z5 := Try.sizeOf5
  v5 := Try.zeroValue5
  t9 := Try.underlying9
  a9 := Try.isAgg9
  z9 := Try.sizeOf9
  v9 := Try.zeroValue9
  t46 := Try.underlying128
  a46 := Try.isAgg128
  z46 := Try.sizeOf128
  v46 := Try.zeroValue128
  t51 := Try.underlying132
  a51 := Try.isAgg132
  z51 := Try.sizeOf132
  v51 := Try.zeroValue132
  t146 := Try.underlying133
  a146 := Try.isAgg133
  z146 := Try.sizeOf133
  v146 := Try.zeroValue133
  g1 := by kernel_rfl }
open Go.RowKit Go.Lib in
theorem Try.stringslite_Index_one (s : ByteArray) (c : UInt8) (w : World) :
    Calls Try.prog 121 #[.string s, .string ⟨#[c]⟩] w fun e w' => e = .returned (.int .i64 (Lib.indexByte s.data.toList c)) ∧ w' = w := Any.stringslite_Index_one Try.lays219 s c w
open Go.RowKit Go.Lib in
theorem Try.stringslite_Index (s sub : ByteArray) (m : Int) (w : World) (hs : s.size < 4294967281) (hm : w.cell? ⟨0, 0, none⟩ = some (.int .i64 m)) :
    Calls Try.prog 121 #[.string s, .string sub] w fun e w' => e = .returned (.int .i64 (Lib.index s.data.toList sub.data.toList)) ∧ w' = w := Any.stringslite_Index Try.lays219 s sub m w hs hm
def Try.lays143_ren : Go.Shelf.Ren := ⟨fun | 143 => 108 | 219 => 121 | 217 => 109 | 225 => 127 | 224 => 128 | 267 => 129 | 266 => 122 | 314 => 133 | n => n, fun | 9 => 9 | 3 => 3 | 4 => 4 | 5 => 5 | 46 => 128 | 146 => 133 | 51 => 132 | n => n, fun | 1 => 0 | n => n⟩
theorem Try.lays143 : Go.Proofs.Lays.n143 Try.prog Try.lays143_ren := {
  mixed := by kernel_rfl
  f143 := Try.func108.trans (congrArg some (by kernel_rfl))
  f217 := Try.func109.trans (congrArg some (by kernel_rfl))
  f219 := Try.func121.trans (congrArg some (by kernel_rfl))
  f224 := Try.func128.trans (congrArg some (by kernel_rfl))
  f225 := Try.func127.trans (congrArg some (by kernel_rfl))
  f266 := Try.func122.trans (congrArg some (by kernel_rfl))
  f267 := Try.func129.trans (congrArg some (by kernel_rfl))
  f314 := Try.func133.trans (congrArg some (by kernel_rfl))
  t3 := Try.underlying3
  a3 := Try.isAgg3
  z3 := Try.sizeOf3
  v3 := Try.zeroValue3
  t4 := Try.underlying4
  a4 := Try.isAgg4
  z4 := Try.sizeOf4
  v4 := Try.zeroValue4
  t5 := Try.underlying5
  a5 := Try.isAgg5
  z5 := Try.sizeOf5
  v5 := Try.zeroValue5
  t9 := Try.underlying9
  a9 := Try.isAgg9
  z9 := Try.sizeOf9
  v9 := Try.zeroValue9
  t46 := Try.underlying128
  a46 := Try.isAgg128
  z46 := Try.sizeOf128
  v46 := Try.zeroValue128
  t51 := Try.underlying132
  a51 := Try.isAgg132
  z51 := Try.sizeOf132
  v51 := Try.zeroValue132
  t146 := Try.underlying133
  a146 := Try.isAgg133
  z146 := Try.sizeOf133
  v146 := Try.zeroValue133
  g1 := by kernel_rfl }
open Go.RowKit Go.Lib in
theorem Try.strings_Index_one (s : ByteArray) (c : UInt8) (w : World) :
    Calls Try.prog 108 #[.string s, .string ⟨#[c]⟩] w fun e w' => e = .returned (.int .i64 (Lib.indexByte s.data.toList c)) ∧ w' = w := Any.strings_Index_one Try.lays143 s c w
open Go.RowKit Go.Lib in
theorem Try.strings_Index (s sub : ByteArray) (m : Int) (w : World) (hs : s.size < 4294967281) (hm : w.cell? ⟨0, 0, none⟩ = some (.int .i64 m)) :
    Calls Try.prog 108 #[.string s, .string sub] w fun e w' => e = .returned (.int .i64 (Lib.index s.data.toList sub.data.toList)) ∧ w' = w := Any.strings_Index Try.lays143 s sub m w hs hm
def Try.lays144_ren : Go.Shelf.Ren := ⟨fun | 144 => 83 | 143 => 108 | 219 => 121 | 217 => 109 | 225 => 127 | 224 => 128 | 267 => 129 | 266 => 122 | 314 => 133 | n => n, fun | 9 => 9 | 4 => 4 | 3 => 3 | 5 => 5 | 46 => 128 | 146 => 133 | 51 => 132 | n => n, fun | 1 => 0 | n => n⟩
theorem Try.lays144 : Go.Proofs.Lays.n144 Try.prog Try.lays144_ren := {
  mixed := by kernel_rfl
  f143 := Try.func108.trans (congrArg some (by kernel_rfl))
  f144 := Try.func83.trans (congrArg some (by kernel_rfl))
  f217 := Try.func109.trans (congrArg some (by kernel_rfl))
  f219 := Try.func121.trans (congrArg some (by kernel_rfl))
  f224 := Try.func128.trans (congrArg some (by kernel_rfl))
  f225 := Try.func127.trans (congrArg some (by kernel_rfl))
  f266 := Try.func122.trans (congrArg some (by kernel_rfl))
  f267 := Try.func129.trans (congrArg some (by kernel_rfl))
  f314 := Try.func133.trans (congrArg some (by kernel_rfl))
  t3 := Try.underlying3
  a3 := Try.isAgg3
  z3 := Try.sizeOf3
  v3 := Try.zeroValue3
  t4 := Try.underlying4
  a4 := Try.isAgg4
  z4 := Try.sizeOf4
  v4 := Try.zeroValue4
  t5 := Try.underlying5
  a5 := Try.isAgg5
  z5 := Try.sizeOf5
  v5 := Try.zeroValue5
  t9 := Try.underlying9
  a9 := Try.isAgg9
  z9 := Try.sizeOf9
  v9 := Try.zeroValue9
  t46 := Try.underlying128
  a46 := Try.isAgg128
  z46 := Try.sizeOf128
  v46 := Try.zeroValue128
  t51 := Try.underlying132
  a51 := Try.isAgg132
  z51 := Try.sizeOf132
  v51 := Try.zeroValue132
  t146 := Try.underlying133
  a146 := Try.isAgg133
  z146 := Try.sizeOf133
  v146 := Try.zeroValue133
  g1 := by kernel_rfl }
open Go.RowKit Go.Lib in
theorem Try.strings_Contains_one (s : ByteArray) (c : UInt8) (w : World) :
    Calls Try.prog 83 #[.string s, .string ⟨#[c]⟩] w fun e w' => e = .returned (.bool (decide (0 ≤ Lib.indexByte s.data.toList c))) ∧ w' = w := Any.strings_Contains_one Try.lays144 s c w
open Go.RowKit Go.Lib in
theorem Try.strings_Contains (s sub : ByteArray) (m : Int) (w : World) (hs : s.size < 4294967281) (hm : w.cell? ⟨0, 0, none⟩ = some (.int .i64 m)) :
    Calls Try.prog 83 #[.string s, .string sub] w fun e w' => e = .returned (.bool (Lib.contains s.data.toList sub.data.toList)) ∧ w' = w := Any.strings_Contains Try.lays144 s sub m w hs hm
def Try.laysM219_ren : Go.Shelf.Ren := ⟨fun | 219 => 121 | 217 => 109 | 225 => 127 | 224 => 128 | 267 => 129 | 266 => 122 | 314 => 133 | n => n, fun | 9 => 9 | 3 => 3 | 4 => 4 | 5 => 5 | 46 => 128 | 146 => 133 | 51 => 132 | n => n, fun | 1 => 0 | n => n⟩
theorem Try.laysM219 : Go.Proofs.LaysM.n219 Try.prog Try.laysM219_ren := {
  mixed := by kernel_rfl
  f217 := Try.func109.trans (congrArg some (by kernel_rfl))
  f219 := Try.func121.trans (congrArg some (by kernel_rfl))
  f224 := Try.func128.trans (congrArg some (by kernel_rfl))
  f225 := Try.func127.trans (congrArg some (by kernel_rfl))
  f266 := Try.func122.trans (congrArg some (by kernel_rfl))
  f267 := Try.func129.trans (congrArg some (by kernel_rfl))
  f314 := Try.func133.trans (congrArg some (by kernel_rfl))
  t3 := Try.underlying3
  a3 := Try.isAgg3
  z3 := Try.sizeOf3
  v3 := Try.zeroValue3
  t4 := Try.underlying4
  a4 := Try.isAgg4
  z4 := Try.sizeOf4
  v4 := Try.zeroValue4
  t5 := Try.underlying5
  a5 := Try.isAgg5
  z5 := Try.sizeOf5
  v5 := Try.zeroValue5
  t9 := Try.underlying9
  a9 := Try.isAgg9
  z9 := Try.sizeOf9
  v9 := Try.zeroValue9
  t46 := Try.underlying128
  a46 := Try.isAgg128
  z46 := Try.sizeOf128
  v46 := Try.zeroValue128
  t51 := Try.underlying132
  a51 := Try.isAgg132
  z51 := Try.sizeOf132
  v51 := Try.zeroValue132
  t146 := Try.underlying133
  a146 := Try.isAgg133
  z146 := Try.sizeOf133
  v146 := Try.zeroValue133
  g1 := by kernel_rfl
  i3 := by kernel_rfl
  i4 := by kernel_rfl
  i5 := by kernel_rfl
  i9 := by kernel_rfl
  i46 := by kernel_rfl
  i51 := by kernel_rfl
  i146 := by kernel_rfl
  m1 := by kernel_rfl
  s1_3 := fun w h => Go.Proofs.cell_of_shapedOpen_int (zero := #[.int .i64 0]) (t := 3) h (of_decide_eq_true (by kernel_rfl)) (by kernel_rfl) rfl (by kernel_rfl) (by kernel_rfl) Try.underlying3 }
open Go.RowKit Go.Lib in
theorem Try.stringslite_Index_shaped (s sub : ByteArray) (w : World) (h : w.ShapedOpen Try.prog) (hs : s.size < 4294967281) :
    Calls Try.prog 121 #[.string s, .string sub] w fun e w' => e = .returned (.int .i64 (Lib.index s.data.toList sub.data.toList)) ∧ w' = w := Any.stringslite_Index_shaped Try.laysM219 s sub w h hs
def Try.laysM143_ren : Go.Shelf.Ren := ⟨fun | 143 => 108 | 219 => 121 | 217 => 109 | 225 => 127 | 224 => 128 | 267 => 129 | 266 => 122 | 314 => 133 | n => n, fun | 9 => 9 | 3 => 3 | 4 => 4 | 5 => 5 | 46 => 128 | 146 => 133 | 51 => 132 | n => n, fun | 1 => 0 | n => n⟩
theorem Try.laysM143 : Go.Proofs.LaysM.n143 Try.prog Try.laysM143_ren := {
  mixed := by kernel_rfl
  f143 := Try.func108.trans (congrArg some (by kernel_rfl))
  f217 := Try.func109.trans (congrArg some (by kernel_rfl))
  f219 := Try.func121.trans (congrArg some (by kernel_rfl))
  f224 := Try.func128.trans (congrArg some (by kernel_rfl))
  f225 := Try.func127.trans (congrArg some (by kernel_rfl))
  f266 := Try.func122.trans (congrArg some (by kernel_rfl))
  f267 := Try.func129.trans (congrArg some (by kernel_rfl))
  f314 := Try.func133.trans (congrArg some (by kernel_rfl))
  t3 := Try.underlying3
  a3 := Try.isAgg3
  z3 := Try.sizeOf3
  v3 := Try.zeroValue3
  t4 := Try.underlying4
  a4 := Try.isAgg4
  z4 := Try.sizeOf4
  v4 := Try.zeroValue4
  t5 := Try.underlying5
  a5 := Try.isAgg5
  z5 := Try.sizeOf5
  v5 := Try.zeroValue5
  t9 := Try.underlying9
  a9 := Try.isAgg9
  z9 := Try.sizeOf9
  v9 := Try.zeroValue9
  t46 := Try.underlying128
  a46 := Try.isAgg128
  z46 := Try.sizeOf128
  v46 := Try.zeroValue128
  t51 := Try.underlying132
  a51 := Try.isAgg132
  z51 := Try.sizeOf132
  v51 := Try.zeroValue132
  t146 := Try.underlying133
  a146 := Try.isAgg133
  z146 := Try.sizeOf133
  v146 := Try.zeroValue133
  g1 := by kernel_rfl
  i3 := by kernel_rfl
  i4 := by kernel_rfl
  i5 := by kernel_rfl
  i9 := by kernel_rfl
  i46 := by kernel_rfl
  i51 := by kernel_rfl
  i146 := by kernel_rfl
  m1 := by kernel_rfl
  s1_3 := fun w h => Go.Proofs.cell_of_shapedOpen_int (zero := #[.int .i64 0]) (t := 3) h (of_decide_eq_true (by kernel_rfl)) (by kernel_rfl) rfl (by kernel_rfl) (by kernel_rfl) Try.underlying3 }
open Go.RowKit Go.Lib in
theorem Try.strings_Index_shaped (s sub : ByteArray) (w : World) (h : w.ShapedOpen Try.prog) (hs : s.size < 4294967281) :
    Calls Try.prog 108 #[.string s, .string sub] w fun e w' => e = .returned (.int .i64 (Lib.index s.data.toList sub.data.toList)) ∧ w' = w := Any.strings_Index_shaped Try.laysM143 s sub w h hs
def Try.laysM144_ren : Go.Shelf.Ren := ⟨fun | 144 => 83 | 143 => 108 | 219 => 121 | 217 => 109 | 225 => 127 | 224 => 128 | 267 => 129 | 266 => 122 | 314 => 133 | n => n, fun | 9 => 9 | 4 => 4 | 3 => 3 | 5 => 5 | 46 => 128 | 146 => 133 | 51 => 132 | n => n, fun | 1 => 0 | n => n⟩
theorem Try.laysM144 : Go.Proofs.LaysM.n144 Try.prog Try.laysM144_ren := {
  mixed := by kernel_rfl
  f143 := Try.func108.trans (congrArg some (by kernel_rfl))
  f144 := Try.func83.trans (congrArg some (by kernel_rfl))
  f217 := Try.func109.trans (congrArg some (by kernel_rfl))
  f219 := Try.func121.trans (congrArg some (by kernel_rfl))
  f224 := Try.func128.trans (congrArg some (by kernel_rfl))
  f225 := Try.func127.trans (congrArg some (by kernel_rfl))
  f266 := Try.func122.trans (congrArg some (by kernel_rfl))
  f267 := Try.func129.trans (congrArg some (by kernel_rfl))
  f314 := Try.func133.trans (congrArg some (by kernel_rfl))
  t3 := Try.underlying3
  a3 := Try.isAgg3
  z3 := Try.sizeOf3
  v3 := Try.zeroValue3
  t4 := Try.underlying4
  a4 := Try.isAgg4
  z4 := Try.sizeOf4
  v4 := Try.zeroValue4
  t5 := Try.underlying5
  a5 := Try.isAgg5
  z5 := Try.sizeOf5
  v5 := Try.zeroValue5
  t9 := Try.underlying9
  a9 := Try.isAgg9
  z9 := Try.sizeOf9
  v9 := Try.zeroValue9
  t46 := Try.underlying128
  a46 := Try.isAgg128
  z46 := Try.sizeOf128
  v46 := Try.zeroValue128
  t51 := Try.underlying132
  a51 := Try.isAgg132
  z51 := Try.sizeOf132
  v51 := Try.zeroValue132
  t146 := Try.underlying133
  a146 := Try.isAgg133
  z146 := Try.sizeOf133
  v146 := Try.zeroValue133
  g1 := by kernel_rfl
  i3 := by kernel_rfl
  i4 := by kernel_rfl
  i5 := by kernel_rfl
  i9 := by kernel_rfl
  i46 := by kernel_rfl
  i51 := by kernel_rfl
  i146 := by kernel_rfl
  m1 := by kernel_rfl
  s1_3 := fun w h => Go.Proofs.cell_of_shapedOpen_int (zero := #[.int .i64 0]) (t := 3) h (of_decide_eq_true (by kernel_rfl)) (by kernel_rfl) rfl (by kernel_rfl) (by kernel_rfl) Try.underlying3 }
open Go.RowKit Go.Lib in
theorem Try.strings_Contains_shaped (s sub : ByteArray) (w : World) (h : w.ShapedOpen Try.prog) (hs : s.size < 4294967281) :
    Calls Try.prog 83 #[.string s, .string sub] w fun e w' => e = .returned (.bool (Lib.contains s.data.toList sub.data.toList)) ∧ w' = w := Any.strings_Contains_shaped Try.laysM144 s sub w h hs
def Try.lays315_ren : Go.Shelf.Ren := ⟨fun | 315 => 120 | n => n, fun | 9 => 9 | 40 => 96 | 4 => 4 | 3 => 3 | 0 => 0 | 21 => 21 | n => n, fun | n => n⟩
theorem Try.lays315 : Go.Proofs.Lays.n315 Try.prog Try.lays315_ren := {
  mixed := by kernel_rfl
  f315 := Try.func120.trans (congrArg some (by kernel_rfl))
  t0 := Try.underlying0
  a0 := Try.isAgg0
  z0 := Try.sizeOf0
  v0 := Try.zeroValue0
  t3 := Try.underlying3
  a3 := Try.isAgg3
  z3 := Try.sizeOf3
  v3 := Try.zeroValue3
  t4 := Try.underlying4
  a4 := Try.isAgg4
  z4 := Try.sizeOf4
  v4 := Try.zeroValue4
  t9 := Try.underlying9
  a9 := Try.isAgg9
  z9 := Try.sizeOf9
  v9 := Try.zeroValue9
  t21 := Try.underlying21
  a21 := Try.isAgg21
  z21 := Try.sizeOf21
  v21 := Try.zeroValue21
  t40 := Try.underlying96
  a40 := Try.isAgg96
  z40 := Try.sizeOf96
  v40 := Try.zeroValue96 }
open Go.RowKit Go.Lib in
theorem Try.strings_indexFunc (g : Nat) (lb : Array Value) (eg : ∀ args w, (callFunc g args).run Try.prog w = .ok (.enter g args) w) (p : Nat → Bool) (truth : Bool) (s : ByteArray) (w : World) (hp : PredAt Try.prog g lb encR p w) :
    Calls Try.prog 120 #[.string s, .func (.func g) #[] lb, .bool truth] w fun e w' => e = .returned (.int .i64 (Lib.idxFunc p truth s)) ∧ Below w.heap.size w w' := Any.strings_indexFunc Try.lays315 g lb eg p truth s w hp
def Try.laysGw15_ren : Go.Shelf.Ren := ⟨fun | 15 => 107 | 20 => 120 | n => n, fun | 9 => 9 | 23 => 96 | 3 => 3 | 4 => 4 | 0 => 0 | 21 => 21 | n => n, fun | n => n⟩
theorem Try.laysGw15 : Go.Proofs.LaysGw.n15 Try.prog Try.laysGw15_ren := {
  mixed := by kernel_rfl
  f15 := Try.func107.trans (congrArg some (by kernel_rfl))
  f20 := Try.func120.trans (congrArg some (by kernel_rfl))
  t0 := Try.underlying0
  a0 := Try.isAgg0
  z0 := Try.sizeOf0
  v0 := Try.zeroValue0
  i0 := by kernel_rfl
  t3 := Try.underlying3
  a3 := Try.isAgg3
  z3 := Try.sizeOf3
  v3 := Try.zeroValue3
  i3 := by kernel_rfl
  t4 := Try.underlying4
  a4 := Try.isAgg4
  z4 := Try.sizeOf4
  v4 := Try.zeroValue4
  i4 := by kernel_rfl
  t9 := Try.underlying9
  a9 := Try.isAgg9
  z9 := Try.sizeOf9
  v9 := Try.zeroValue9
  i9 := by kernel_rfl
  t21 := Try.underlying21
  a21 := Try.isAgg21
  z21 := Try.sizeOf21
  v21 := Try.zeroValue21
  i21 := by kernel_rfl
  t23 := Try.underlying96
  a23 := Try.isAgg96
  z23 := Try.sizeOf96
  v23 := Try.zeroValue96
  i23 := by kernel_rfl }
open Go.RowKit Go.Lib in
theorem Try.strings_IndexFunc (g : Nat) (lb : Array Value) (eg : ∀ args w, (callFunc g args).run Try.prog w = .ok (.enter g args) w) (p : Nat → Bool) (s : ByteArray) (w : World) (hp : PredAt Try.prog g lb encR p w) :
    Calls Try.prog 107 #[.string s, .func (.func g) #[] lb] w fun e w' => e = .returned (.int .i64 (Lib.idxFunc p true s)) ∧ Below w.heap.size w w' := Any.strings_IndexFunc Try.laysGw15 g lb eg p s w hp
def Try.laysGw17_ren : Go.Shelf.Ren := ⟨fun | 17 => 81 | 15 => 107 | 20 => 120 | n => n, fun | 9 => 9 | 23 => 96 | 4 => 4 | 3 => 3 | 0 => 0 | 21 => 21 | n => n, fun | n => n⟩
theorem Try.laysGw17 : Go.Proofs.LaysGw.n17 Try.prog Try.laysGw17_ren := {
  mixed := by kernel_rfl
  f15 := Try.func107.trans (congrArg some (by kernel_rfl))
  f17 := Try.func81.trans (congrArg some (by kernel_rfl))
  f20 := Try.func120.trans (congrArg some (by kernel_rfl))
  t0 := Try.underlying0
  a0 := Try.isAgg0
  z0 := Try.sizeOf0
  v0 := Try.zeroValue0
  i0 := by kernel_rfl
  t3 := Try.underlying3
  a3 := Try.isAgg3
  z3 := Try.sizeOf3
  v3 := Try.zeroValue3
  i3 := by kernel_rfl
  t4 := Try.underlying4
  a4 := Try.isAgg4
  z4 := Try.sizeOf4
  v4 := Try.zeroValue4
  i4 := by kernel_rfl
  t9 := Try.underlying9
  a9 := Try.isAgg9
  z9 := Try.sizeOf9
  v9 := Try.zeroValue9
  i9 := by kernel_rfl
  t21 := Try.underlying21
  a21 := Try.isAgg21
  z21 := Try.sizeOf21
  v21 := Try.zeroValue21
  i21 := by kernel_rfl
  t23 := Try.underlying96
  a23 := Try.isAgg96
  z23 := Try.sizeOf96
  v23 := Try.zeroValue96
  i23 := by kernel_rfl }
open Go.RowKit Go.Lib in
theorem Try.strings_ContainsFunc (g : Nat) (lb : Array Value) (eg : ∀ args w, (callFunc g args).run Try.prog w = .ok (.enter g args) w) (p : Nat → Bool) (s : ByteArray) (w : World) (hp : PredAt Try.prog g lb encR p w) :
    Calls Try.prog 81 #[.string s, .func (.func g) #[] lb] w fun e w' => e = .returned (.bool (decide (0 ≤ Lib.idxFunc p true s))) ∧ Below w.heap.size w w' := Any.strings_ContainsFunc Try.laysGw17 g lb eg p s w hp
open Go.RowKit Go.Lib in
theorem Try.strings_indexFunc_runes (g : Nat) (lb : Array Value) (eg : ∀ args w, (callFunc g args).run Try.prog w = .ok (.enter g args) w) (p : Nat → Bool) (truth : Bool) (s : ByteArray) (w : World) (hp : PredAtRunes Try.prog g lb p w) :
    Calls Try.prog 120 #[.string s, .func (.func g) #[] lb, .bool truth] w fun e w' => e = .returned (.int .i64 (Lib.idxFunc p truth s)) ∧ Below w.heap.size w w' := Any.strings_indexFunc_runes Try.lays315 g lb eg p truth s w hp
open Go.RowKit Go.Lib in
theorem Try.strings_IndexFunc_runes (g : Nat) (lb : Array Value) (eg : ∀ args w, (callFunc g args).run Try.prog w = .ok (.enter g args) w) (p : Nat → Bool) (s : ByteArray) (w : World) (hp : PredAtRunes Try.prog g lb p w) :
    Calls Try.prog 107 #[.string s, .func (.func g) #[] lb] w fun e w' => e = .returned (.int .i64 (Lib.idxFunc p true s)) ∧ Below w.heap.size w w' := Any.strings_IndexFunc_runes Try.laysGw15 g lb eg p s w hp
open Go.RowKit Go.Lib in
theorem Try.strings_ContainsFunc_runes (g : Nat) (lb : Array Value) (eg : ∀ args w, (callFunc g args).run Try.prog w = .ok (.enter g args) w) (p : Nat → Bool) (s : ByteArray) (w : World) (hp : PredAtRunes Try.prog g lb p w) :
    Calls Try.prog 81 #[.string s, .func (.func g) #[] lb] w fun e w' => e = .returned (.bool (decide (0 ≤ Lib.idxFunc p true s))) ∧ Below w.heap.size w w' := Any.strings_ContainsFunc_runes Try.laysGw17 g lb eg p s w hp
def Try.lays206_ren : Go.Shelf.Ren := ⟨fun | 206 => 119 | n => n, fun | 9 => 9 | 4 => 4 | 3 => 3 | n => n, fun | n => n⟩
theorem Try.lays206 : Go.Proofs.Lays.n206 Try.prog Try.lays206_ren := {
  mixed := by kernel_rfl
  f206 := Try.func119.trans (congrArg some (by kernel_rfl))
  t3 := Try.underlying3
  a3 := Try.isAgg3
  z3 := Try.sizeOf3
  v3 := Try.zeroValue3
  t4 := Try.underlying4
  a4 := Try.isAgg4
  z4 := Try.sizeOf4
  v4 := Try.zeroValue4
  t9 := Try.underlying9
  a9 := Try.isAgg9
  z9 := Try.sizeOf9
  v9 := Try.zeroValue9 }
open Go.RowKit Go.Lib in
theorem Try.stringslite_HasPrefix (s p : ByteArray) (w : World) :
    Calls Try.prog 119 #[.string s, .string p] w fun e w' => e = .returned (.bool (Lib.hasPrefix s.data.toList p.data.toList)) ∧ w' = w := Any.stringslite_HasPrefix Try.lays206 s p w
def Try.lays208_ren : Go.Shelf.Ren := ⟨fun | 208 => 106 | 206 => 119 | n => n, fun | 9 => 9 | 4 => 4 | 3 => 3 | n => n, fun | n => n⟩
theorem Try.lays208 : Go.Proofs.Lays.n208 Try.prog Try.lays208_ren := {
  mixed := by kernel_rfl
  f206 := Try.func119.trans (congrArg some (by kernel_rfl))
  f208 := Try.func106.trans (congrArg some (by kernel_rfl))
  t3 := Try.underlying3
  a3 := Try.isAgg3
  z3 := Try.sizeOf3
  v3 := Try.zeroValue3
  t4 := Try.underlying4
  a4 := Try.isAgg4
  z4 := Try.sizeOf4
  v4 := Try.zeroValue4
  t9 := Try.underlying9
  a9 := Try.isAgg9
  z9 := Try.sizeOf9
  v9 := Try.zeroValue9 }
open Go.RowKit Go.Lib in
theorem Try.stringslite_TrimPrefix (s p : ByteArray) (w : World) :
    Calls Try.prog 106 #[.string s, .string p] w fun e w' => e = .returned (.string ⟨(Lib.trimPrefix s.data.toList p.data.toList).toArray⟩) ∧ w' = w := Any.stringslite_TrimPrefix Try.lays208 s p w
def Try.lays101_ren : Go.Shelf.Ren := ⟨fun | 101 => 80 | 208 => 106 | 206 => 119 | n => n, fun | 9 => 9 | 4 => 4 | 3 => 3 | n => n, fun | n => n⟩
theorem Try.lays101 : Go.Proofs.Lays.n101 Try.prog Try.lays101_ren := {
  mixed := by kernel_rfl
  f101 := Try.func80.trans (congrArg some (by kernel_rfl))
  f206 := Try.func119.trans (congrArg some (by kernel_rfl))
  f208 := Try.func106.trans (congrArg some (by kernel_rfl))
  t3 := Try.underlying3
  a3 := Try.isAgg3
  z3 := Try.sizeOf3
  v3 := Try.zeroValue3
  t4 := Try.underlying4
  a4 := Try.isAgg4
  z4 := Try.sizeOf4
  v4 := Try.zeroValue4
  t9 := Try.underlying9
  a9 := Try.isAgg9
  z9 := Try.sizeOf9
  v9 := Try.zeroValue9 }
open Go.RowKit Go.Lib in
theorem Try.strings_TrimPrefix (s p : ByteArray) (w : World) :
    Calls Try.prog 80 #[.string s, .string p] w fun e w' => e = .returned (.string ⟨(Lib.trimPrefix s.data.toList p.data.toList).toArray⟩) ∧ w' = w := Any.strings_TrimPrefix Try.lays101 s p w
open Go.RowKit Go.Lib in
theorem Try.strings_indexFunc_grows (g : Nat) (lb : Array Value) (eg : ∀ args w, (callFunc g args).run Try.prog w = .ok (.enter g args) w) (p : Nat → Bool) (truth : Bool) (s : ByteArray) (w : World) (hp : PredGrows Try.prog g lb p w) :
    Calls Try.prog 120 #[.string s, .func (.func g) #[] lb, .bool truth] w fun e w' => e = .returned (.int .i64 (Lib.idxFunc p truth s)) ∧ Below w.heap.size w w' := Any.strings_indexFunc_grows Try.lays315 g lb eg p truth s w hp
open Go.RowKit Go.Lib in
theorem Try.strings_IndexFunc_grows (g : Nat) (lb : Array Value) (eg : ∀ args w, (callFunc g args).run Try.prog w = .ok (.enter g args) w) (p : Nat → Bool) (s : ByteArray) (w : World) (hp : PredGrows Try.prog g lb p w) :
    Calls Try.prog 107 #[.string s, .func (.func g) #[] lb] w fun e w' => e = .returned (.int .i64 (Lib.idxFunc p true s)) ∧ Below w.heap.size w w' := Any.strings_IndexFunc_grows Try.laysGw15 g lb eg p s w hp
open Go.RowKit Go.Lib in
theorem Try.strings_ContainsFunc_grows (g : Nat) (lb : Array Value) (eg : ∀ args w, (callFunc g args).run Try.prog w = .ok (.enter g args) w) (p : Nat → Bool) (s : ByteArray) (w : World) (hp : PredGrows Try.prog g lb p w) :
    Calls Try.prog 81 #[.string s, .func (.func g) #[] lb] w fun e w' => e = .returned (.bool (decide (0 ≤ Lib.idxFunc p true s))) ∧ Below w.heap.size w w' := Any.strings_ContainsFunc_grows Try.laysGw17 g lb eg p s w hp
end Go.Proofs
end
section
namespace Go.Proofs.Ytdelccahgchadaa.P
open Go.RowKit Go.Shelf Go.Lib Go.Proofs.YtdelccahgchadaaW.PrintWords Go.Proofs.YtdelccahgchadaaW.PrintLast Go.Proofs.YtdelccahgchadaaW.PrintMore
set_option linter.unusedVariables false
set_option linter.unusedSimpArgs false
def strings_TrimPrefix.f (a0 a1 : ByteArray) : Option ByteArray := some ⟨(Lib.trimPrefix a0.data.toList a1.data.toList).toArray⟩
theorem strings_TrimPrefix.calls (a0 a1 r : ByteArray) (w : World) (h : strings_TrimPrefix.f a0 a1 = some r) :
    Calls Try.prog 80 #[.string a0, .string a1] w fun e w' => e = .returned (.string r) ∧ Drawn0 w w' := by
  obtain rfl := Option.some.inj h
  refine (Try.strings_TrimPrefix a0 a1 w).mono ?_
  rintro e w' ⟨rfl, rfl⟩
  exact ⟨rfl, Drawn0.refl _⟩
def strings_IndexByte.f (a0 : ByteArray) (a1 : Int) : Option Int := some (Lib.indexByte a0.data.toList a1.toNat.toUInt8)
theorem strings_IndexByte.calls (a0 : ByteArray) (a1 : Int) (r : Int) (w : World) (h : strings_IndexByte.f a0 a1 = some r) :
    Calls Try.prog 90 #[.string a0, .int .u8 a1] w fun e w' => e = .returned (.int .i64 r) ∧ Drawn0 w w' := by
  obtain rfl := Option.some.inj h
  refine (Try.strings_IndexByte a0 a1 w).mono ?_
  rintro e w' ⟨rfl, rfl⟩
  exact ⟨rfl, Drawn0.refl _⟩
theorem spot_none {w : World} {bk o : Nat} {sp : Option Nat} {v : Value} (h : w.cell? ((⟨bk, o, sp⟩ : Addr).add 0) = some v) : sp = none := by
  cases sp with
  | none => rfl
  | some n =>
    exfalso
    unfold World.cell? Addr.add at h
    simp at h
    split at h <;> simp at h
def joinB (l : List ByteArray) (sep : ByteArray) : List UInt8 := Lib.join (l.map (·.data.toList)) sep.data.toList
def strings_Join.f (l0 : List ByteArray) (a1 : ByteArray) : Option ByteArray := if l0.length ≤ 140737488355328 ∧ (joinB l0 a1).length ≤ 140737488355328 then some ⟨(joinB l0 a1).toArray⟩ else none
theorem strings_Join.calls (A0 : Option Addr) (c0 : Nat) (l0 : List ByteArray) (a1 : ByteArray) (r : ByteArray) (w : World) (hr0 : Kd.C Kd.string w A0 l0.length l0) (hc0 : l0.length ≤ c0) (h : strings_Join.f l0 a1 = some r) :
    Calls Try.prog 103 #[.slice A0 l0.length c0, .string a1] w fun e w' => e = .returned (.string r) ∧ Below w.heap.size w w' := by
  unfold strings_Join.f at h
  by_cases hb : l0.length ≤ 140737488355328 ∧ (joinB l0 a1).length ≤ 140737488355328
  · rw [if_pos hb] at h
    obtain rfl := Option.some.inj h
    by_cases h0 : l0 = []
    · subst h0
      refine (Try.strings_Join_none A0 c0 a1 w).mono ?_
      rintro e w' ⟨rfl, rfl⟩
      exact ⟨by simp [joinB, Lib.join], Below.refl _ _⟩
    · obtain ⟨ad, rfl, hc⟩ := hr0.2.2 (by cases l0 with | nil => exact absurd rfl h0 | cons => simp)
      have hcell : ∀ j x, l0[j]? = some x → w.cell? (ad.add j) = some (.string x) := fun j x hj => by
        obtain ⟨c, hs, rfl, hcc⟩ := hc j x hj
        have := hcc 0 _ rfl
        rw [show (Kd.string).sz = 1 from rfl, Nat.mul_one, Nat.add_zero] at this
        exact this
      obtain ⟨x0, hx0⟩ : ∃ x, l0[0]? = some x := by
        cases l0 with
        | nil => exact absurd rfl h0
        | cons x l => exact ⟨x, rfl⟩
      have h1 := hcell 0 x0 hx0
      have hlt := World.block_lt_of_cell? w _ h1
      obtain ⟨bk, o, sp⟩ := ad
      obtain rfl : sp = none := spot_none h1
      refine (Try.strings_Join bk o c0 l0 a1 w (fun j x hj => ?_) hlt hb.1 hc0 hb.2).mono ?_
      · rw [← hcell j x hj]
        by_cases hj0 : j = 0
        · subst hj0; rfl
        · simp [Addr.add, hj0]
      · rintro e w' ⟨rfl, hbl⟩
        exact ⟨rfl, hbl⟩
  · rw [if_neg hb] at h
    cases h
def noFig (r : Nat) : Bool := decide (r < 48) || decide (57 < r)
theorem may1 (w : World) : PredAt Try.prog 82 #[] encR noFig w := fun W r _ => by
  unfold FnGives
  by_cases h1 : r < 48
  all_goals by_cases h2 : 57 < r
  all_goals
    have z1 : (r : Int) < 48 ↔ r < 48 := by omega
    have z2 : (57 : Int) < (r : Int) ↔ 57 < r := by omega
    go_enter Try.func82, Try.ntmps82
    go_wp2
    all_goals first | (exfalso; omega) | (go_ret; exact ⟨by simp [noFig, h1, h2], 0, rfl⟩)
def isFig (c : UInt8) : Bool := decide (48 ≤ c.toNat) && decide (c.toNat ≤ 57)
theorem fig_idx (s : ByteArray) : ∀ (f pos : Nat), s.size ≤ pos + f → (0 ≤ Lib.idxFuncFrom noFig true s f pos ↔ ∃ j, ∃ h : j < s.size, pos ≤ j ∧ isFig s[j] = false)
  | 0, pos, hf => by
    simp only [Lib.idxFuncFrom]
    constructor
    · intro h; omega
    · rintro ⟨j, hj, hp, _⟩; omega
  | f + 1, pos, hf => by
    unfold Lib.idxFuncFrom
    by_cases hp : pos < s.size
    · rw [if_pos hp]
      by_cases ha : (s[pos]'hp).toNat < 128
      · rw [decode_ascii s pos hp ha]
        simp only []
        by_cases hg : noFig (s[pos]'hp).toNat = true
        · rw [if_pos hg]
          constructor
          · intro _
            refine ⟨pos, hp, Nat.le_refl _, ?_⟩
            unfold noFig at hg
            unfold isFig
            simp at hg ⊢
            omega
          · intro _; omega
        · rw [if_neg hg, fig_idx s f (pos + 1) (by omega)]
          constructor
          · rintro ⟨j, hj, hle, hh⟩
            exact ⟨j, hj, by omega, hh⟩
          · rintro ⟨j, hj, hle, hh⟩
            by_cases hjp : j = pos
            · subst hjp
              unfold noFig at hg
              unfold isFig at hh
              simp at hg hh
              omega
            · exact ⟨j, hj, by omega, hh⟩
      · have hd := decode_high s pos hp (by omega)
        rw [if_pos (by unfold noFig; simp; omega)]
        constructor
        · intro _
          refine ⟨pos, hp, Nat.le_refl _, ?_⟩
          unfold isFig
          simp
          omega
        · intro _; omega
    · rw [if_neg hp]
      constructor
      · intro h; omega
      · rintro ⟨j, hj, hle, _⟩; omega
def allFig (s : ByteArray) : Bool := s.data.toList.all isFig
theorem contains_nofig (s : ByteArray) : decide (0 ≤ Lib.idxFunc noFig true s) = !allFig s := by
  have h := fig_idx s s.size 0 (by omega)
  have e : (∃ j, ∃ h : j < s.size, 0 ≤ j ∧ isFig s[j] = false) ↔ allFig s = false := by
    unfold allFig
    rw [List.all_eq_false]
    constructor
    · rintro ⟨j, hj, _, hh⟩
      exact ⟨s[j], by rw [Array.mem_toList_iff]; exact Array.getElem_mem hj, by rw [hh]; decide⟩
    · rintro ⟨x, hx, hh⟩
      rw [Array.mem_toList_iff] at hx
      obtain ⟨j, hj, rfl⟩ := Array.getElem_of_mem hx
      exact ⟨j, hj, Nat.zero_le _, (Bool.not_eq_true _).mp hh⟩
  unfold Lib.idxFunc
  have h2 := h.trans e
  by_cases ha : allFig s = false
  · rw [decide_eq_true (h2.2 ha), ha]; rfl
  · rw [decide_eq_false (fun h3 => ha (h2.1 h3)), (Bool.not_eq_false _).mp ha]; rfl
def ContainsFunc_May.f (a0 : ByteArray) : Option Bool := some (!allFig a0)
theorem ContainsFunc_May.calls (a0 : ByteArray) (r : Bool) (w : World) (h : ContainsFunc_May.f a0 = some r) :
    Calls Try.prog 81 #[.string a0, .func (.func 82) #[] #[]] w fun e w' => e = .returned (.bool r) ∧ Below w.heap.size w w' := by
  obtain rfl := Option.some.inj h
  refine (Try.strings_ContainsFunc 82 #[] (enters_of Try.func82 (by kernel_rfl) rfl) noFig a0 w (may1 w)).mono ?_
  rintro e w' ⟨rfl, hb⟩
  exact ⟨by rw [contains_nofig], hb⟩
def runN (p : Int → Bool) (s : ByteArray) : Nat := (s.data.toList.takeWhile fun c => p (c.toNat : Int)).length
theorem runN_at (p : Int → Bool) (s : ByteArray) (k : Nat) (hk : k ≤ s.size) (h : ∀ j, ∀ hj : j < k, p ((s[j]'(by omega)).toNat : Int) = true) (he : ∀ hl : k < s.size, p ((s[k]'hl).toNat : Int) = false) : runN p s = k := by
  unfold runN
  have hl : s.data.toList = s.data.toList.take k ++ s.data.toList.drop k := (List.take_append_drop _ _).symm
  rw [hl, List.takeWhile_append_of_pos]
  · rw [List.length_append, List.length_take]
    have h0 : (List.takeWhile (fun c : UInt8 => p (c.toNat : Int)) (List.drop k s.data.toList)) = [] := by
      by_cases hlt : k < s.size
      · rw [List.drop_eq_getElem_cons (by simpa using hlt), List.takeWhile_cons]
        have := he hlt
        rw [if_neg]
        simp only [Array.getElem_toList]
        rw [show s.data[k] = s[k] from rfl, this]
        decide
      · rw [List.drop_eq_nil_of_le (by simpa using Nat.le_of_not_lt hlt)]
        rfl
    rw [h0]
    have : s.data.toList.length = s.size := by simp
    simp
    omega
  · intro a ha
    obtain ⟨i, hi, rfl⟩ := List.getElem_of_mem ha
    rw [List.length_take] at hi
    rw [List.getElem_take]
    exact h i (by omega)
set_option maxHeartbeats 1000000 in
theorem run_any (g : Nat) (eg : ∀ args w, (callFunc g args).run Try.prog w = .ok (.enter g args) w) (p : Int → Bool) (hd0 : ∀ c W, Calls Try.prog g #[.int .u8 c] W fun e w' => e = .returned (.bool (p c)) ∧ W = w')
    (s : ByteArray) (hs : s.size ≤ 4611686018427387904) (w : World) :
    Calls Try.prog 85 #[.string s, .func (.func g) #[] #[]] w fun e w' => e = .returned (.int .i64 (runN p s)) ∧ w = w' := by
  have hd := Aside0.mk hd0
  clear hd0
  go_enter Try.func85, Try.ntmps85
  go_wp2
  go_loop [5] (fun t => ∃ k : Nat, k ≤ s.size ∧ t = .int .i64 k ∧ Aside0 (∀ j, ∀ hj : j < k, ∀ hjs : j < s.size, p ((s[j]'hjs).toNat : Int) = true)) (fun t => s.size - (intOf t).toNat)
  case atStart => exact ⟨0, Nat.zero_le _, rfl, ⟨fun j hj => absurd hj (Nat.not_lt_zero _)⟩⟩
  case round =>
    obtain ⟨k, hk, rfl, hp⟩ := hrel
    by_cases hlt : k < s.size
    · generalize hb : p ((s[k]'hlt).toNat : Int) = b
      have hB := Aside0.mk hb
      clear hb
      cases b
      · go_wp2_with (go_at_fn g; refine (hd.out _ _).mono ?_; rintro e w' ⟨rfl, rfl⟩; rw [hB.out])
        go_ret
        exact ⟨ret_int (by rw [runN_at p s k hk (fun j hj => hp.out j hj (by omega)) (fun _ => hB.out)]), rfl⟩
      · go_wp2_with (go_at_fn g; refine (hd.out _ _).mono ?_; rintro e w' ⟨rfl, rfl⟩; rw [hB.out])
        go_round
        case rel => exact ⟨k + 1, by omega, by go_num, ⟨fun j hj hjs => by
          by_cases hjk : j = k
          · subst hjk; exact hB.out
          · exact hp.out j (by omega) hjs⟩⟩
        case measure => simp [intOf]; omega
    · go_wp2
      go_ret
      exact ⟨ret_int (by rw [runN_at p s k hk (fun j hj => hp.out j hj (by omega)) (fun hl => absurd hl hlt)]), rfl⟩
def isD (c : Int) : Bool := decide (48 ≤ c ∧ c ≤ 57)
def isLow (c : Int) : Bool := decide (97 ≤ c ∧ c ≤ 122)
def isUp (c : Int) : Bool := decide (65 ≤ c ∧ c ≤ 90)
set_option maxHeartbeats 400000 in
theorem figure_any (c : Int) (w : World) : Calls Try.prog 87 #[.int .u8 c] w fun e w' => e = .returned (.bool (isD c)) ∧ w = w' := by
  by_cases h1 : 48 ≤ c
  all_goals by_cases h2 : c ≤ 57
  all_goals
    go_enter Try.func87, Try.ntmps87
    go_wp2
    go_ret
    exact ⟨ret_bool (by simp [isD, h1, h2]), rfl⟩
set_option maxHeartbeats 400000 in
theorem small_any (c : Int) (w : World) : Calls Try.prog 84 #[.int .u8 c] w fun e w' => e = .returned (.bool (isLow c)) ∧ w = w' := by
  by_cases h1 : 97 ≤ c
  all_goals by_cases h2 : c ≤ 122
  all_goals
    go_enter Try.func84, Try.ntmps84
    go_wp2
    go_ret
    exact ⟨ret_bool (by simp [isLow, h1, h2]), rfl⟩
set_option maxHeartbeats 400000 in
theorem great_any (c : Int) (w : World) : Calls Try.prog 88 #[.int .u8 c] w fun e w' => e = .returned (.bool (isUp c)) ∧ w = w' := by
  by_cases h1 : 65 ≤ c
  all_goals by_cases h2 : c ≤ 90
  all_goals
    go_enter Try.func88, Try.ntmps88
    go_wp2
    go_ret
    exact ⟨ret_bool (by simp [isUp, h1, h2]), rfl⟩
def isWordC (c : Int) : Bool := isLow c || isD c
def isVerbC (c : Int) : Bool := isLow c || isUp c || isD c
set_option maxHeartbeats 400000 in
theorem first1_any (c : Int) (w : World) : Calls Try.prog 86 #[.int .u8 c] w fun e w' => e = .returned (.bool (isWordC c)) ∧ w = w' := by
  generalize h1 : isLow c = b1
  have H1 := Aside0.mk h1
  clear h1
  cases b1
  all_goals
    go_enter Try.func86, Try.ntmps86
    go_wp2_with (first | (go_at_call 84; refine (small_any _ _).mono ?_; rintro e w' ⟨rfl, rfl⟩; rw [H1.out]) | (go_at_call 87; refine (figure_any _ _).mono ?_; rintro e w' ⟨rfl, rfl⟩))
    go_ret
    exact ⟨ret_bool (by simp [isWordC, H1.out]), rfl⟩
set_option maxHeartbeats 400000 in
theorem first2_any (c : Int) (w : World) : Calls Try.prog 89 #[.int .u8 c] w fun e w' => e = .returned (.bool (isVerbC c)) ∧ w = w' := by
  generalize h1 : isLow c = b1
  generalize h2 : isUp c = b2
  have H1 := Aside0.mk h1
  have H2 := Aside0.mk h2
  clear h1 h2
  cases b1
  all_goals cases b2
  all_goals
    go_enter Try.func89, Try.ntmps89
    go_wp2_with (first | (go_at_call 84; refine (small_any _ _).mono ?_; rintro e w' ⟨rfl, rfl⟩; rw [H1.out]) | (go_at_call 88; refine (great_any _ _).mono ?_; rintro e w' ⟨rfl, rfl⟩; rw [H2.out]) | (go_at_call 87; refine (figure_any _ _).mono ?_; rintro e w' ⟨rfl, rfl⟩))
    go_ret
    exact ⟨ret_bool (by simp [isVerbC, H1.out, H2.out]), rfl⟩
def runO (p : Int → Bool) (s : ByteArray) : Option Int := if s.size ≤ 4611686018427387904 then some (runN p s : Int) else none
theorem runO_spec {p : Int → Bool} {s : ByteArray} {r : Int} (h : runO p s = some r) : s.size ≤ 4611686018427387904 ∧ (runN p s : Int) = r := by
  unfold runO at h
  by_cases hs : s.size ≤ 4611686018427387904
  · rw [if_pos hs] at h; exact ⟨hs, Option.some.inj h⟩
  · rw [if_neg hs] at h; cases h
def run_figure.f (a0 : ByteArray) : Option Int := runO isD a0
theorem run_figure.calls (a0 : ByteArray) (r : Int) (w : World) (h : run_figure.f a0 = some r) :
    Calls Try.prog 85 #[.string a0, .func (.func 87) #[] #[]] w fun e w' => e = .returned (.int .i64 r) ∧ Drawn0 w w' := by
  obtain ⟨hs, rfl⟩ := runO_spec h
  refine (run_any 87 (enters_of Try.func87 (by kernel_rfl) rfl) isD figure_any a0 hs w).mono ?_
  rintro e w' ⟨rfl, rfl⟩
  exact ⟨rfl, Drawn0.refl _⟩
def run_word.f (a0 : ByteArray) : Option Int := runO isWordC a0
theorem run_word.calls (a0 : ByteArray) (r : Int) (w : World) (h : run_word.f a0 = some r) :
    Calls Try.prog 85 #[.string a0, .func (.func 86) #[] #[]] w fun e w' => e = .returned (.int .i64 r) ∧ Drawn0 w w' := by
  obtain ⟨hs, rfl⟩ := runO_spec h
  refine (run_any 86 (enters_of Try.func86 (by kernel_rfl) rfl) isWordC first1_any a0 hs w).mono ?_
  rintro e w' ⟨rfl, rfl⟩
  exact ⟨rfl, Drawn0.refl _⟩
def run_verb.f (a0 : ByteArray) : Option Int := runO isVerbC a0
theorem run_verb.calls (a0 : ByteArray) (r : Int) (w : World) (h : run_verb.f a0 = some r) :
    Calls Try.prog 85 #[.string a0, .func (.func 89) #[] #[]] w fun e w' => e = .returned (.int .i64 r) ∧ Drawn0 w w' := by
  obtain ⟨hs, rfl⟩ := runO_spec h
  refine (run_any 89 (enters_of Try.func89 (by kernel_rfl) rfl) isVerbC first2_any a0 hs w).mono ?_
  rintro e w' ⟨rfl, rfl⟩
  exact ⟨rfl, Drawn0.refl _⟩
end Go.Proofs.Ytdelccahgchadaa.P
end
section
namespace Go.Proofs.Ytdelccahgchadaa.P
open Go.RowKit Go.Proofs.Ytdelccahgchadaa Go.Proofs.YtdelccahgchadaaW.PrintWords Go.Proofs.YtdelccahgchadaaW.PrintLast Go.Proofs.YtdelccahgchadaaW.PrintMore
set_option linter.unusedVariables false
def strings_Contains.f (a0 a1 : ByteArray) : Option Bool := match a1.data.toList with | [c] => some (a0.data.toList.contains c) | _ => none
theorem strings_Contains.calls (a0 a1 : ByteArray) (r : Bool) (w : World) (h : strings_Contains.f a0 a1 = some r) :
    Calls Try.prog 83 #[.string a0, .string a1] w fun e w' => e = .returned (.bool r) ∧ Drawn0 w w' := by
  unfold strings_Contains.f at h
  cases hl : a1.data.toList with
  | nil => rw [hl] at h; cases h
  | cons c l =>
    cases l with
    | cons d l => rw [hl] at h; cases h
    | nil =>
      rw [hl] at h
      obtain rfl := Option.some.inj h
      obtain rfl : a1 = ⟨#[c]⟩ := by
        cases a1 with
        | mk d => congr 1; exact Array.toList_inj.1 hl
      refine (Try.strings_Contains_one a0 c w).mono ?_
      rintro e w' ⟨rfl, rfl⟩
      exact ⟨by rw [Lib.contains_iff_indexByte], Drawn0.refl _⟩
end Go.Proofs.Ytdelccahgchadaa.P
end
section
namespace Go.Proofs.Ytdelccahgchadaa.P
open Go.RowKit Go.Proofs.YtdelccahgchadaaW.PrintWords Go.Proofs.YtdelccahgchadaaW.PrintLast Go.Proofs.YtdelccahgchadaaW.PrintMore
attribute [local go_sem] max2_int min2_int max_two min_two max_three min_three max_four min_four   
set_option linter.unusedVariables false
set_option linter.unusedSimpArgs false
def reredosref03_Same.l0 : Nat → List Int → List Int → Int → Option (Bool)
 | 0, _, _, _ => none
 | k + 1, x0, x1, x5 => if x5 < (x0.length : Int) then (if 0 ≤ x5 then (if x5 < (x1.length : Int) then (if (rd x0 x5) = (rd x1 x5) then (reredosref03_Same.l0 k x0 x1 (wrap64 (x5 + 1))) else (some false)) else (none)) else (none)) else (some true)
def reredosref03_Same.f (k : Nat) (l0 : List Int) (l1 : List Int) : Option (Bool) := if (l0.length : Int) = (l1.length : Int) then (reredosref03_Same.l0 k l0 l1 0) else (some false)
theorem reredosref03_Same.mono_l : ∀ k, (∀ y0 y1 y2, LeO (reredosref03_Same.l0 k y0 y1 y2) (reredosref03_Same.l0 (k + 1) y0 y1 y2))
 | 0 => fun _ _ _ r h => by simp [reredosref03_Same.l0] at h
 | k + 1 => by
  have ih0 := reredosref03_Same.mono_l k
  ·intro y0 y1 y2
   unfold reredosref03_Same.l0
   repeat' first
   | (with_reducible exact ih0 _ _ _)
   | (with_reducible exact LeO.refl _)
   | (with_reducible exact LeO.none _)
   | (with_reducible refine LeO.ite ?_ ?_)
   | (with_reducible refine LeO.bind ?_ (fun _ => ?_))
   | exact ih0 _ _ _
   | exact LeO.none _
   | refine LeO.ite ?_ ?_
   | refine LeO.bind ?_ (fun _ => ?_)
theorem reredosref03_Same.mono : ∀ a0 a1 k, LeO (reredosref03_Same.f k a0 a1) (reredosref03_Same.f (k + 1) a0 a1) := by
 intro a0 a1 k
 have ih0 := reredosref03_Same.mono_l k
 unfold reredosref03_Same.f
 repeat' first
   | (with_reducible exact ih0 _ _ _)
   | (with_reducible exact LeO.refl _)
   | (with_reducible exact LeO.none _)
   | (with_reducible refine LeO.ite ?_ ?_)
   | (with_reducible refine LeO.bind ?_ (fun _ => ?_))
   | exact ih0 _ _ _
   | exact LeO.none _
   | refine LeO.ite ?_ ?_
   | refine LeO.bind ?_ (fun _ => ?_)
set_option maxHeartbeats 8000000 in
set_option maxRecDepth 100000 in
theorem reredosref03_Same.calls (k : Nat) (A0 : Option Addr) (c0 : Nat) (l0 : List Int) (A1 : Option Addr) (c1 : Nat) (l1 : List Int) (r : Bool) (w : World) (hr0 : Kd.C (Kd.int .i64) w A0 l0.length l0) (hc0 : l0.length ≤ c0) (hr1 : Kd.C (Kd.int .i64) w A1 l1.length l1) (hc1 : l1.length ≤ c1) (h : reredosref03_Same.f k l0 l1 = some r) :
  Calls Try.prog 23 #[.slice A0 l0.length c0, .slice A1 l1.length c1] w fun e w' => e = .returned (.bool r) ∧ Drawn0 w w' := by
 have HR0 := am hr0
 have HC0 := am hc0
 clear hr0 hc0
 have HR1 := am hr1
 have HC1 := am hc1
 clear hr1 hc1
 have H : (if (l0.length : Int) = (l1.length : Int) then (reredosref03_Same.l0 k l0 l1 0) else (some false)) = some r := h
 clear h
 by_cases c3 : (l0.length : Int) = (l1.length : Int)
 ·rw [if_pos c3] at H
  have c3b0 : ((l0.length : Int) == (l1.length : Int)) = true := beq_iff_eq.mpr c3
  have c3b1 : ((l0.length : Int) != (l1.length : Int)) = false := bne_eq_false_iff_eq.mpr c3
  have c3b2 : (l0.length == l1.length) = true := by first | simpa using c3 | (simp at c3 ⊢; omega)
  clear c3
  have H' := am H
  clear H
  go_enter Try.func23, Try.ntmps23
  go_wp2
  repeat (go_quiet (fail); try go_wp2)
  go_loopg [5] k (fun kq v5 w' => ∃ (x5_1 : Int), v5 = .int .i64 x5_1 ∧ Aside0 (reredosref03_Same.l0 kq l0 l1 x5_1 = some r) ∧ Aside0 (kq ≤ k) ∧ Drawn0 w w')
  case atStart => exact ⟨(0), (by first | rfl | (simp; done) | (simp [*]; done)), H', ⟨Nat.le_refl _⟩, by repeat (first | exact Drawn0.refl _ | apply Drawn0.step)⟩
  case round =>
   clear H'
   try clear c1
   try clear c2
   try clear p2
   try clear c3
   try clear c3b0
   try clear c3b1
   try clear c3b2
   obtain ⟨x5_1, rfl, HA, HK1, ⟨m1, rfl⟩⟩ := hrel
   cases gk with
   | zero => exact absurd HA.out (by simp [reredosref03_Same.l0])
   | succ k1 =>
    have H := HA.out
    clear HA
    simp only [reredosref03_Same.l0] at H
    by_cases c4 : x5_1 < (l0.length : Int)
    ·rw [if_pos c4] at H
     have c4b0 : decide (x5_1 < (l0.length : Int)) = true := decide_eq_true c4
     clear c4
     by_cases c5 : 0 ≤ x5_1
     ·rw [if_pos c5] at H
      have c5b0 : decide (0 ≤ x5_1) = true := decide_eq_true c5
      clear c5
      by_cases c6 : x5_1 < (l1.length : Int)
      ·rw [if_pos c6] at H
       have c6b0 : decide (x5_1 < (l1.length : Int)) = true := decide_eq_true c6
       clear c6
       by_cases c7 : (rd l0 x5_1) = (rd l1 x5_1)
       ·rw [if_pos c7] at H
        have c7b0 : ((rd l0 x5_1) == (rd l1 x5_1)) = true := beq_iff_eq.mpr c7
        have c7b1 : ((rd l0 x5_1) != (rd l1 x5_1)) = false := bne_eq_false_iff_eq.mpr c7
        clear c7
        have H' := am H
        clear H
        have p101 : 0 ≤ (x5_1 : Int) := of_decide_eq_true (by first | (with_reducible assumption) | assumption)
        have q101 : x5_1 < (l0.length : Int) := of_decide_eq_true (by first | (with_reducible assumption) | assumption)
        obtain ⟨ad101, e101, hx101_0⟩ := Kd.at_int HR0.out x5_1 p101 q101
        cases e101
        replace p101 := eq_true p101
        replace q101 := eq_true q101
        have p102 : 0 ≤ (x5_1 : Int) := of_decide_eq_true (by first | (with_reducible assumption) | assumption)
        have q102 : x5_1 < (l1.length : Int) := of_decide_eq_true (by first | (with_reducible assumption) | assumption)
        obtain ⟨ad102, e102, hx102_0⟩ := Kd.at_int HR1.out x5_1 p102 q102
        cases e102
        replace p102 := eq_true p102
        replace q102 := eq_true q102
        go_wp2
        repeat (go_quiet (fail); try go_wp2)
        go_roundg k1
        case measure => have := HK1.out; omega
        case rel => exact ⟨(wrap64 (x5_1 + 1)), (by first | rfl | (simp; done) | (simp [*]; done)), H', ⟨by have := HK1.out; omega⟩, by repeat (first | exact Drawn0.refl _ | apply Drawn0.step)⟩
       ·rw [if_neg c7] at H
        have c7b0 : ((rd l0 x5_1) == (rd l1 x5_1)) = false := beq_eq_false_iff_ne.mpr c7
        have c7b1 : ((rd l0 x5_1) != (rd l1 x5_1)) = true := bne_iff_ne.mpr c7
        obtain rfl := Option.some.inj H
        have p101 : 0 ≤ (x5_1 : Int) := of_decide_eq_true (by first | (with_reducible assumption) | assumption)
        have q101 : x5_1 < (l0.length : Int) := of_decide_eq_true (by first | (with_reducible assumption) | assumption)
        obtain ⟨ad101, e101, hx101_0⟩ := Kd.at_int HR0.out x5_1 p101 q101
        cases e101
        replace p101 := eq_true p101
        replace q101 := eq_true q101
        have p102 : 0 ≤ (x5_1 : Int) := of_decide_eq_true (by first | (with_reducible assumption) | assumption)
        have q102 : x5_1 < (l1.length : Int) := of_decide_eq_true (by first | (with_reducible assumption) | assumption)
        obtain ⟨ad102, e102, hx102_0⟩ := Kd.at_int HR1.out x5_1 p102 q102
        cases e102
        replace p102 := eq_true p102
        replace q102 := eq_true q102
        go_wp2
        repeat (go_quiet (fail); try go_wp2)
        go_ret
        exact ⟨by first | rfl | (simp; done) | (simp [*]; done), by repeat (first | exact Drawn0.refl _ | apply Drawn0.step)⟩
      ·rw [if_neg c6] at H
       exact absurd H (by simp)
     ·rw [if_neg c5] at H
      exact absurd H (by simp)
    ·rw [if_neg c4] at H
     have c4b0 : decide (x5_1 < (l0.length : Int)) = false := decide_eq_false c4
     clear c4
     obtain rfl := Option.some.inj H
     go_wp2
     repeat (go_quiet (fail); try go_wp2)
     go_ret
     exact ⟨by first | rfl | (simp; done) | (simp [*]; done), by repeat (first | exact Drawn0.refl _ | apply Drawn0.step)⟩
 ·rw [if_neg c3] at H
  have c3b0 : ((l0.length : Int) == (l1.length : Int)) = false := beq_eq_false_iff_ne.mpr c3
  have c3b1 : ((l0.length : Int) != (l1.length : Int)) = true := bne_iff_ne.mpr c3
  have c3b2 : (l0.length == l1.length) = false := by first | simpa using c3 | (simp at c3 ⊢; omega)
  obtain rfl := Option.some.inj H
  go_enter Try.func23, Try.ntmps23
  go_wp2
  repeat (go_quiet (fail); try go_wp2)
  go_ret
  exact ⟨by first | rfl | (simp; done) | (simp [*]; done), by repeat (first | exact Drawn0.refl _ | apply Drawn0.step)⟩
end Go.Proofs.Ytdelccahgchadaa.P
end
section
namespace Go.Proofs.Ytdelccahgchadaa.P
open Go.RowKit Go.Proofs.YtdelccahgchadaaW.PrintWords Go.Proofs.YtdelccahgchadaaW.PrintLast Go.Proofs.YtdelccahgchadaaW.PrintMore
attribute [local go_sem] max2_int min2_int max_two min_two max_three min_three max_four min_four   
set_option linter.unusedVariables false
set_option linter.unusedSimpArgs false
mutual
def tree_Kids.j0 : Nat → Int → Int → ByteArray → ByteArray → ByteArray → List ByteArray → Option (Int)
 | 0, _, _, _, _, _, _ => none
 | k + 1, x3, x104000, x104001, x104002, x104003, x104004 => if x104000 = 1 then (tree_Kids.j1 k x3 x104000 (x104000 == 1)) else (tree_Kids.j1 k x3 x104000 (x104000 == 2))
def tree_Kids.j1 : Nat → Int → Int → Bool → Option (Int)
 | 0, _, _, _ => none
 | k + 1, x3, x8, x9 => if x9 = true then (some 0) else (if x8 = 3 then (some (wrap64 (1 + x3))) else (if x8 = 4 then (some (wrap64 (2 + x3))) else (if x8 = 5 then (tree_Kids.j2 k x8 (x8 == 5)) else (tree_Kids.j2 k x8 (x8 == 7)))))
def tree_Kids.j2 : Nat → Int → Bool → Option (Int)
 | 0, _, _ => none
 | k + 1, x8, x20 => if x20 = true then (some 1) else (if x8 = 6 then (some 2) else (if x8 = 8 then (some 2) else (some (-1))))
end
def tree_Kids.f (k : Nat) (a0_0 : Int) (a0_1 : ByteArray) (a0_2 : ByteArray) (a0_3 : ByteArray) (l0_4 : List ByteArray) : Option (Int) := if a0_1.toList = ([123] : List UInt8) then (tree_Kids.j0 k 1 a0_0 a0_1 a0_2 a0_3 l0_4) else (tree_Kids.j0 k 0 a0_0 a0_1 a0_2 a0_3 l0_4)
theorem tree_Kids.mono_l : ∀ k, (∀ y0 y1 y2 y3 y4 y5, LeO (tree_Kids.j0 k y0 y1 y2 y3 y4 y5) (tree_Kids.j0 (k + 1) y0 y1 y2 y3 y4 y5)) ∧ (∀ y0 y1 y2, LeO (tree_Kids.j1 k y0 y1 y2) (tree_Kids.j1 (k + 1) y0 y1 y2)) ∧ (∀ y0 y1, LeO (tree_Kids.j2 k y0 y1) (tree_Kids.j2 (k + 1) y0 y1))
 | 0 => ⟨fun _ _ _ _ _ _ r h => by simp [tree_Kids.j0] at h, fun _ _ _ r h => by simp [tree_Kids.j1] at h, fun _ _ r h => by simp [tree_Kids.j2] at h⟩
 | k + 1 => by
  obtain ⟨ih0, ih1, ih2⟩ := tree_Kids.mono_l k
  refine ⟨?_, ?_, ?_⟩
  ·intro y0 y1 y2 y3 y4 y5
   unfold tree_Kids.j0
   repeat' first
   | (with_reducible exact ih0 _ _ _ _ _ _)
   | (with_reducible exact ih1 _ _ _)
   | (with_reducible exact ih2 _ _)
   | (with_reducible exact LeO.refl _)
   | (with_reducible exact LeO.none _)
   | (with_reducible refine LeO.ite ?_ ?_)
   | (with_reducible refine LeO.bind ?_ (fun _ => ?_))
   | exact ih0 _ _ _ _ _ _
   | exact ih1 _ _ _
   | exact ih2 _ _
   | exact LeO.none _
   | refine LeO.ite ?_ ?_
   | refine LeO.bind ?_ (fun _ => ?_)
  ·intro y0 y1 y2
   unfold tree_Kids.j1
   repeat' first
   | (with_reducible exact ih0 _ _ _ _ _ _)
   | (with_reducible exact ih1 _ _ _)
   | (with_reducible exact ih2 _ _)
   | (with_reducible exact LeO.refl _)
   | (with_reducible exact LeO.none _)
   | (with_reducible refine LeO.ite ?_ ?_)
   | (with_reducible refine LeO.bind ?_ (fun _ => ?_))
   | exact ih0 _ _ _ _ _ _
   | exact ih1 _ _ _
   | exact ih2 _ _
   | exact LeO.none _
   | refine LeO.ite ?_ ?_
   | refine LeO.bind ?_ (fun _ => ?_)
  ·intro y0 y1
   unfold tree_Kids.j2
   repeat' first
   | (with_reducible exact ih0 _ _ _ _ _ _)
   | (with_reducible exact ih1 _ _ _)
   | (with_reducible exact ih2 _ _)
   | (with_reducible exact LeO.refl _)
   | (with_reducible exact LeO.none _)
   | (with_reducible refine LeO.ite ?_ ?_)
   | (with_reducible refine LeO.bind ?_ (fun _ => ?_))
   | exact ih0 _ _ _ _ _ _
   | exact ih1 _ _ _
   | exact ih2 _ _
   | exact LeO.none _
   | refine LeO.ite ?_ ?_
   | refine LeO.bind ?_ (fun _ => ?_)
theorem tree_Kids.mono : ∀ a0 a1 a2 a3 a4 k, LeO (tree_Kids.f k a0 a1 a2 a3 a4) (tree_Kids.f (k + 1) a0 a1 a2 a3 a4) := by
 intro a0 a1 a2 a3 a4 k
 obtain ⟨ih0, ih1, ih2⟩ := tree_Kids.mono_l k
 unfold tree_Kids.f
 repeat' first
   | (with_reducible exact ih0 _ _ _ _ _ _)
   | (with_reducible exact ih1 _ _ _)
   | (with_reducible exact ih2 _ _)
   | (with_reducible exact LeO.refl _)
   | (with_reducible exact LeO.none _)
   | (with_reducible refine LeO.ite ?_ ?_)
   | (with_reducible refine LeO.bind ?_ (fun _ => ?_))
   | exact ih0 _ _ _ _ _ _
   | exact ih1 _ _ _
   | exact ih2 _ _
   | exact LeO.none _
   | refine LeO.ite ?_ ?_
   | refine LeO.bind ?_ (fun _ => ?_)
set_option maxHeartbeats 8000000 in
set_option maxRecDepth 100000 in
theorem tree_Kids.calls (k : Nat) (a0_0 : Int) (a0_1 : ByteArray) (a0_2 : ByteArray) (a0_3 : ByteArray) (A0_4 : Option Addr) (c0_4 : Nat) (l0_4 : List ByteArray) (r : Int) (w : World) (hr0_4 : Kd.C Kd.string w A0_4 l0_4.length l0_4) (hc0_4 : l0_4.length ≤ c0_4) (h : tree_Kids.f k a0_0 a0_1 a0_2 a0_3 l0_4 = some r) :
  Calls Try.prog 21 #[.agg #[.int .i64 a0_0, .string a0_1, .string a0_2, .string a0_3, .slice A0_4 l0_4.length c0_4]] w fun e w' => e = .returned (.int .i64 r) ∧ Below w.heap.size w w' := by
 have hu25 := Try.underlying25
 have HR0_4 := am hr0_4
 have HC0_4 := am hc0_4
 clear hr0_4 hc0_4
 have HB := am (Below.refl w.heap.size w)
 have H : (if a0_1.toList = ([123] : List UInt8) then (tree_Kids.j0 k 1 a0_0 a0_1 a0_2 a0_3 l0_4) else (tree_Kids.j0 k 0 a0_0 a0_1 a0_2 a0_3 l0_4)) = some r := h
 clear h
 have HC2 := am H
 clear H
 go_enter Try.func21, Try.ntmps21
 go_upto_if 6 with (first | ((with_reducible refine gate_dst (N := 1) rfl ?_); refine box_event ?hg (N := 1) ?hd (cs := #[.int .i64 a0_0, .string a0_1, .string a0_2, .string a0_3, .slice A0_4 l0_4.length c0_4]) (t := 25) ?hr ?_; (case hd => rfl); (case hg => rfl); (case hr => first | (go_simp; done) | (go_simp; rfl)); intro gb103 hg w3 hbox hb; have n0_ := am (below_step (by repeat (first | (with_reducible first | exact HB.out | apply lA | apply lN | apply lD) | exact HB.out)) hb); have n1_ := am (hbox); have n2_ := am ((by rw [hg]; exact (below_size (by repeat (first | (with_reducible first | exact HB.out | apply lA | apply lN | apply lD) | exact HB.out))) : w.heap.size ≤ gb103)); have n3_ := n2_; clear HB; have HB := n0_; have BK103 := n1_; have GW103 := n2_; have GE103 := n3_; clear n0_ n1_ n2_ n3_; clear hb hbox hg; have hcz4_0 : w3.cell? ⟨gb103, 0, none⟩ = some (.int .i64 a0_0) := (blk_cell BK103.out 0).trans rfl; have hcz4_1 : w3.cell? ⟨gb103, 1, none⟩ = some (.string a0_1) := (blk_cell BK103.out 1).trans rfl; have hcz4_2 : w3.cell? ⟨gb103, 2, none⟩ = some (.string a0_2) := (blk_cell BK103.out 2).trans rfl; have hcz4_3 : w3.cell? ⟨gb103, 3, none⟩ = some (.string a0_3) := (blk_cell BK103.out 3).trans rfl; have hcz4_4 : w3.cell? ⟨gb103, 4, none⟩ = some (.slice A0_4 l0_4.length c0_4) := (blk_cell BK103.out 4).trans rfl; have hfz4_0 := blk_frozen BK103.out 0; have hfz4_1 := blk_frozen BK103.out 1; have hfz4_2 := blk_frozen BK103.out 2; have hfz4_3 := blk_frozen BK103.out 3; have hfz4_4 := blk_frozen BK103.out 4))
 (try simp only [Act.put, zT, z0, zS])
 go_cut [3] (fun v3 wc => ∃ (kq : Nat) (x3_1 : Int), v3 = .int .i64 x3_1 ∧ Aside0 (tree_Kids.j0 kq x3_1 a0_0 a0_1 a0_2 a0_3 l0_4 = some r) ∧ Aside0 (kq ≤ k) ∧ Aside0 (wc.heap[gb103]? = some (.cells #[.int .i64 a0_0, .string a0_1, .string a0_2, .string a0_3, (.slice A0_4 l0_4.length c0_4)] 25 (0, 0))) ∧ Aside0 (Below w.heap.size w wc))
 case first =>
  have H := HC2.out
  clear HC2
  by_cases c5 : a0_1.toList = ([123] : List UInt8)
  ·rw [if_pos c5] at H
   have c5b0 : (a0_1.toList == ([123] : List UInt8)) = true := beq_iff_eq.mpr c5
   have c5b1 : (a0_1.toList != ([123] : List UInt8)) = false := bne_eq_false_iff_eq.mpr c5
   clear c5
   (first | rw [c5b0] | (simp only [i64_w, i32_w]; rw [c5b0]) | skip)
   have H' := am H
   clear H
   go_wp2
   go_meet
   case rel => exact ⟨_, (1), (by first | rfl | (simp; done) | (simp [*]; done)), H', ⟨by first | omega | exact Nat.le_refl _⟩, ⟨by (with_reducible repeat (first | refine bN ?_ _ | refine bD ?_ | refine bA ?_ _)); exact BK103.out⟩, ⟨by repeat (first | (with_reducible first | exact HB.out | apply lA | apply lN | apply lD | refine below_set ?_ GE103.out) | exact HB.out)⟩⟩
  ·rw [if_neg c5] at H
   have c5b0 : (a0_1.toList == ([123] : List UInt8)) = false := beq_eq_false_iff_ne.mpr c5
   have c5b1 : (a0_1.toList != ([123] : List UInt8)) = true := bne_iff_ne.mpr c5
   (first | rw [c5b0] | (simp only [i64_w, i32_w]; rw [c5b0]) | skip)
   have H' := am H
   clear H
   go_wp2
   go_meet
   case rel => exact ⟨_, (0), (by first | rfl | (simp; done) | (simp [*]; done)), H', ⟨by first | omega | exact Nat.le_refl _⟩, ⟨by (with_reducible repeat (first | refine bN ?_ _ | refine bD ?_ | refine bA ?_ _)); exact BK103.out⟩, ⟨by repeat (first | (with_reducible first | exact HB.out | apply lA | apply lN | apply lD | refine below_set ?_ GE103.out) | exact HB.out)⟩⟩
 case rest =>
  clear HC2
  try clear c2
  try clear p2
  try clear c5
  try clear c5b0
  try clear c5b1
  try clear hcz4_0
  try clear hcz4_1
  try clear hcz4_2
  try clear hcz4_3
  try clear hcz4_4
  try clear hfz4_0
  try clear hfz4_1
  try clear hfz4_2
  try clear hfz4_3
  try clear hfz4_4
  obtain ⟨kq, x3_1, rfl, HA, HJ1, BK103, HB⟩ := hcut
  cases kq with
  | zero => exact absurd HA.out (by simp [tree_Kids.j0])
  | succ kj1 =>
   have H := HA.out
   clear HA
   simp only [tree_Kids.j0] at H
   have HC6 := am H
   clear H
   have hcz7_0 : wc.cell? ⟨gb103, 0, none⟩ = some (.int .i64 a0_0) := (blk_cell BK103.out 0).trans rfl
   have hcz7_1 : wc.cell? ⟨gb103, 1, none⟩ = some (.string a0_1) := (blk_cell BK103.out 1).trans rfl
   have hcz7_2 : wc.cell? ⟨gb103, 2, none⟩ = some (.string a0_2) := (blk_cell BK103.out 2).trans rfl
   have hcz7_3 : wc.cell? ⟨gb103, 3, none⟩ = some (.string a0_3) := (blk_cell BK103.out 3).trans rfl
   have hcz7_4 : wc.cell? ⟨gb103, 4, none⟩ = some (.slice A0_4 l0_4.length c0_4) := (blk_cell BK103.out 4).trans rfl
   have hfz7_0 := blk_frozen BK103.out 0
   have hfz7_1 := blk_frozen BK103.out 1
   have hfz7_2 := blk_frozen BK103.out 2
   have hfz7_3 := blk_frozen BK103.out 3
   have hfz7_4 := blk_frozen BK103.out 4
   go_upto_if 9 with (fail)
   go_cut [9] (fun v9 wc => ∃ (kq : Nat) (x9_5 : Bool), v9 = .bool x9_5 ∧ Aside0 (tree_Kids.j1 kq x3_1 a0_0 x9_5 = some r) ∧ Aside0 (kq ≤ kj1) ∧ Aside0 (wc.heap[gb103]? = some (.cells #[.int .i64 a0_0, .string a0_1, .string a0_2, .string a0_3, (.slice A0_4 l0_4.length c0_4)] 25 (0, 0))) ∧ Aside0 (Below w.heap.size w wc))
   case first =>
    have H := HC6.out
    clear HC6
    by_cases c8 : a0_0 = 1
    ·rw [if_pos c8] at H
     have c8b0 : (a0_0 == 1) = true := beq_iff_eq.mpr c8
     have c8b1 : (a0_0 != 1) = false := bne_eq_false_iff_eq.mpr c8
     clear c8
     (first | rw [c8b0] | (simp only [i64_w, i32_w]; rw [c8b0]) | skip)
     have H' := am H
     clear H
     go_wp2
     go_meet
     case rel => exact ⟨_, ((a0_0 == 1)), (by first | rfl | (simp; done) | (simp [*]; done)), H', ⟨by have := HJ1.out; first | omega | exact Nat.le_refl _⟩, ⟨by (with_reducible repeat (first | refine bN ?_ _ | refine bD ?_ | refine bA ?_ _)); exact BK103.out⟩, ⟨by repeat (first | (with_reducible first | exact HB.out | apply lA | apply lN | apply lD | refine below_set ?_ GE103.out) | exact HB.out)⟩⟩
    ·rw [if_neg c8] at H
     have c8b0 : (a0_0 == 1) = false := beq_eq_false_iff_ne.mpr c8
     have c8b1 : (a0_0 != 1) = true := bne_iff_ne.mpr c8
     (first | rw [c8b0] | (simp only [i64_w, i32_w]; rw [c8b0]) | skip)
     have H' := am H
     clear H
     go_wp2
     go_meet
     case rel => exact ⟨_, ((a0_0 == 2)), (by first | rfl | (simp; done) | (simp [*]; done)), H', ⟨by have := HJ1.out; first | omega | exact Nat.le_refl _⟩, ⟨by (with_reducible repeat (first | refine bN ?_ _ | refine bD ?_ | refine bA ?_ _)); exact BK103.out⟩, ⟨by repeat (first | (with_reducible first | exact HB.out | apply lA | apply lN | apply lD | refine below_set ?_ GE103.out) | exact HB.out)⟩⟩
   case rest =>
    clear HC6
    try clear c2
    try clear p2
    try clear c5
    try clear c5b0
    try clear c5b1
    try clear c8
    try clear c8b0
    try clear c8b1
    try clear hcz4_0
    try clear hcz4_1
    try clear hcz4_2
    try clear hcz4_3
    try clear hcz4_4
    try clear hcz7_0
    try clear hcz7_1
    try clear hcz7_2
    try clear hcz7_3
    try clear hcz7_4
    try clear hfz4_0
    try clear hfz4_1
    try clear hfz4_2
    try clear hfz4_3
    try clear hfz4_4
    try clear hfz7_0
    try clear hfz7_1
    try clear hfz7_2
    try clear hfz7_3
    try clear hfz7_4
    try clear p2
    obtain ⟨kq, x9_5, rfl, HA, HJ5, BK103, HB⟩ := hcut
    cases kq with
    | zero => exact absurd HA.out (by simp [tree_Kids.j1])
    | succ kj5 =>
     have H := HA.out
     clear HA
     simp only [tree_Kids.j1] at H
     by_cases c9 : x9_5 = true
     ·subst c9
      have H1 : (some 0) = some r := by rw [if_pos rfl] at H; exact H
      clear H
      have H := H1
      clear H1
      obtain rfl := Option.some.inj H
      go_wp2
      go_ret
      exact ⟨by first | rfl | (simp [errW_none, errW_some] <;> rfl) | (simp [*, errW_none, errW_some] <;> rfl), by repeat (first | (with_reducible first | exact HB.out | apply lA | apply lN | apply lD | refine below_set ?_ GE103.out) | exact HB.out)⟩
     ·replace c9 := Bool.eq_false_iff.mpr c9
      subst c9
      have H1 : (if a0_0 = 3 then (some (wrap64 (1 + x3_1))) else (if a0_0 = 4 then (some (wrap64 (2 + x3_1))) else (if a0_0 = 5 then (tree_Kids.j2 kj5 a0_0 (a0_0 == 5)) else (tree_Kids.j2 kj5 a0_0 (a0_0 == 7))))) = some r := by rw [if_neg (show ¬ (false = true) by decide)] at H; exact H
      clear H
      have H := H1
      clear H1
      by_cases c10 : a0_0 = 3
      ·rw [if_pos c10] at H
       have c10b0 : (a0_0 == 3) = true := beq_iff_eq.mpr c10
       have c10b1 : (a0_0 != 3) = false := bne_eq_false_iff_eq.mpr c10
       clear c10
       obtain rfl := Option.some.inj H
       go_wp2
       go_ret
       exact ⟨by first | rfl | (simp [errW_none, errW_some] <;> rfl) | (simp [*, errW_none, errW_some] <;> rfl), by repeat (first | (with_reducible first | exact HB.out | apply lA | apply lN | apply lD | refine below_set ?_ GE103.out) | exact HB.out)⟩
      ·rw [if_neg c10] at H
       have c10b0 : (a0_0 == 3) = false := beq_eq_false_iff_ne.mpr c10
       have c10b1 : (a0_0 != 3) = true := bne_iff_ne.mpr c10
       by_cases c11 : a0_0 = 4
       ·rw [if_pos c11] at H
        have c11b0 : (a0_0 == 4) = true := beq_iff_eq.mpr c11
        have c11b1 : (a0_0 != 4) = false := bne_eq_false_iff_eq.mpr c11
        clear c11
        obtain rfl := Option.some.inj H
        go_wp2
        go_ret
        exact ⟨by first | rfl | (simp [errW_none, errW_some] <;> rfl) | (simp [*, errW_none, errW_some] <;> rfl), by repeat (first | (with_reducible first | exact HB.out | apply lA | apply lN | apply lD | refine below_set ?_ GE103.out) | exact HB.out)⟩
       ·rw [if_neg c11] at H
        have c11b0 : (a0_0 == 4) = false := beq_eq_false_iff_ne.mpr c11
        have c11b1 : (a0_0 != 4) = true := bne_iff_ne.mpr c11
        have HC12 := am H
        clear H
        go_upto_if 20 with (fail)
        go_cut [20] (fun v20 wc => ∃ (kq : Nat) (x20_11 : Bool), v20 = .bool x20_11 ∧ Aside0 (tree_Kids.j2 kq a0_0 x20_11 = some r) ∧ Aside0 (kq ≤ kj5) ∧ Aside0 (wc.heap[gb103]? = some (.cells #[.int .i64 a0_0, .string a0_1, .string a0_2, .string a0_3, (.slice A0_4 l0_4.length c0_4)] 25 (0, 0))) ∧ Aside0 (Below w.heap.size w wc))
        case first =>
         have H := HC12.out
         clear HC12
         by_cases c13 : a0_0 = 5
         ·rw [if_pos c13] at H
          have c13b0 : (a0_0 == 5) = true := beq_iff_eq.mpr c13
          have c13b1 : (a0_0 != 5) = false := bne_eq_false_iff_eq.mpr c13
          clear c13
          (first | rw [c13b0] | (simp only [i64_w, i32_w]; rw [c13b0]) | skip)
          have H' := am H
          clear H
          go_wp2
          go_meet
          case rel => exact ⟨_, ((a0_0 == 5)), (by first | rfl | (simp; done) | (simp [*]; done)), H', ⟨by have := HJ1.out; have := HJ5.out; first | omega | exact Nat.le_refl _⟩, ⟨by (with_reducible repeat (first | refine bN ?_ _ | refine bD ?_ | refine bA ?_ _)); exact BK103.out⟩, ⟨by repeat (first | (with_reducible first | exact HB.out | apply lA | apply lN | apply lD | refine below_set ?_ GE103.out) | exact HB.out)⟩⟩
         ·rw [if_neg c13] at H
          have c13b0 : (a0_0 == 5) = false := beq_eq_false_iff_ne.mpr c13
          have c13b1 : (a0_0 != 5) = true := bne_iff_ne.mpr c13
          (first | rw [c13b0] | (simp only [i64_w, i32_w]; rw [c13b0]) | skip)
          have H' := am H
          clear H
          go_wp2
          go_meet
          case rel => exact ⟨_, ((a0_0 == 7)), (by first | rfl | (simp; done) | (simp [*]; done)), H', ⟨by have := HJ1.out; have := HJ5.out; first | omega | exact Nat.le_refl _⟩, ⟨by (with_reducible repeat (first | refine bN ?_ _ | refine bD ?_ | refine bA ?_ _)); exact BK103.out⟩, ⟨by repeat (first | (with_reducible first | exact HB.out | apply lA | apply lN | apply lD | refine below_set ?_ GE103.out) | exact HB.out)⟩⟩
        case rest =>
         clear HC12
         try clear c1
         try clear c2
         try clear p2
         try clear c5
         try clear c5b0
         try clear c5b1
         try clear p6
         try clear c8
         try clear c8b0
         try clear c8b1
         try clear c9
         try clear c10
         try clear c10b0
         try clear c10b1
         try clear c11
         try clear c11b0
         try clear c11b1
         try clear c13
         try clear c13b0
         try clear c13b1
         try clear hcz4_0
         try clear hcz4_1
         try clear hcz4_2
         try clear hcz4_3
         try clear hcz4_4
         try clear hcz7_0
         try clear hcz7_1
         try clear hcz7_2
         try clear hcz7_3
         try clear hcz7_4
         try clear hfz4_0
         try clear hfz4_1
         try clear hfz4_2
         try clear hfz4_3
         try clear hfz4_4
         try clear hfz7_0
         try clear hfz7_1
         try clear hfz7_2
         try clear hfz7_3
         try clear hfz7_4
         try clear p2
         obtain ⟨kq, x20_11, rfl, HA, HJ11, BK103, HB⟩ := hcut
         cases kq with
         | zero => exact absurd HA.out (by simp [tree_Kids.j2])
         | succ kj11 =>
          have H := HA.out
          clear HA
          simp only [tree_Kids.j2] at H
          by_cases c14 : x20_11 = true
          ·subst c14
           have H1 : (some 1) = some r := by rw [if_pos rfl] at H; exact H
           clear H
           have H := H1
           clear H1
           obtain rfl := Option.some.inj H
           go_wp2
           go_ret
           exact ⟨by first | rfl | (simp [errW_none, errW_some] <;> rfl) | (simp [*, errW_none, errW_some] <;> rfl), by repeat (first | (with_reducible first | exact HB.out | apply lA | apply lN | apply lD | refine below_set ?_ GE103.out) | exact HB.out)⟩
          ·replace c14 := Bool.eq_false_iff.mpr c14
           subst c14
           have H1 : (if a0_0 = 6 then (some 2) else (if a0_0 = 8 then (some 2) else (some (-1)))) = some r := by rw [if_neg (show ¬ (false = true) by decide)] at H; exact H
           clear H
           have H := H1
           clear H1
           by_cases c15 : a0_0 = 6
           ·rw [if_pos c15] at H
            have c15b0 : (a0_0 == 6) = true := beq_iff_eq.mpr c15
            have c15b1 : (a0_0 != 6) = false := bne_eq_false_iff_eq.mpr c15
            clear c15
            obtain rfl := Option.some.inj H
            go_wp2
            go_ret
            exact ⟨by first | rfl | (simp [errW_none, errW_some] <;> rfl) | (simp [*, errW_none, errW_some] <;> rfl), by repeat (first | (with_reducible first | exact HB.out | apply lA | apply lN | apply lD | refine below_set ?_ GE103.out) | exact HB.out)⟩
           ·rw [if_neg c15] at H
            have c15b0 : (a0_0 == 6) = false := beq_eq_false_iff_ne.mpr c15
            have c15b1 : (a0_0 != 6) = true := bne_iff_ne.mpr c15
            by_cases c16 : a0_0 = 8
            ·rw [if_pos c16] at H
             have c16b0 : (a0_0 == 8) = true := beq_iff_eq.mpr c16
             have c16b1 : (a0_0 != 8) = false := bne_eq_false_iff_eq.mpr c16
             clear c16
             obtain rfl := Option.some.inj H
             go_wp2
             go_ret
             exact ⟨by first | rfl | (simp [errW_none, errW_some] <;> rfl) | (simp [*, errW_none, errW_some] <;> rfl), by repeat (first | (with_reducible first | exact HB.out | apply lA | apply lN | apply lD | refine below_set ?_ GE103.out) | exact HB.out)⟩
            ·rw [if_neg c16] at H
             have c16b0 : (a0_0 == 8) = false := beq_eq_false_iff_ne.mpr c16
             have c16b1 : (a0_0 != 8) = true := bne_iff_ne.mpr c16
             obtain rfl := Option.some.inj H
             go_wp2
             go_ret
             exact ⟨by first | rfl | (simp [errW_none, errW_some] <;> rfl) | (simp [*, errW_none, errW_some] <;> rfl), by repeat (first | (with_reducible first | exact HB.out | apply lA | apply lN | apply lD | refine below_set ?_ GE103.out) | exact HB.out)⟩
end Go.Proofs.Ytdelccahgchadaa.P
end
section
namespace Go.Proofs.Ytdelccahgchadaa.P
open Go.RowKit Go.Proofs.YtdelccahgchadaaW.PrintWords Go.Proofs.YtdelccahgchadaaW.PrintLast Go.Proofs.YtdelccahgchadaaW.PrintMore
attribute [local go_sem] max2_int min2_int max_two min_two max_three min_three max_four min_four   
set_option linter.unusedVariables false
set_option linter.unusedSimpArgs false
def tree_End.l0 : Nat → List (S25) → Int → Int → Option (Int × Bool)
 | 0, _, _, _ => none
 | k + 1, x0, x1, x6 => if x6 > 0 then (if x1 < 0 then (some (0, false)) else (if x1 ≥ (x0.length : Int) then (some (0, false)) else (if 0 ≤ x1 then (if x1 < (x0.length : Int) then ((tree_Kids.f k ((rd_T25 x0 x1).f0) ((rd_T25 x0 x1).f1) ((rd_T25 x0 x1).f2) ((rd_T25 x0 x1).f3) ((rd_T25 x0 x1).f4)).bind fun t105 => (if t105 < 0 then (some (0, false)) else ((tree_Kids.f k ((rd_T25 x0 x1).f0) ((rd_T25 x0 x1).f1) ((rd_T25 x0 x1).f2) ((rd_T25 x0 x1).f3) ((rd_T25 x0 x1).f4)).bind fun t107 => (tree_End.l0 k x0 (wrap64 (x1 + 1)) (wrap64 ((wrap64 (x6 + t107)) - 1)))))) else (none)) else (none)))) else (some (x1, true))
def tree_End.f (k : Nat) (l0 : List (S25)) (a1 : Int) : Option (Int × Bool) := tree_End.l0 k l0 a1 1
theorem tree_End.mono_l : ∀ k, (∀ y0 y1 y2, LeO (tree_End.l0 k y0 y1 y2) (tree_End.l0 (k + 1) y0 y1 y2))
 | 0 => fun _ _ _ r h => by simp [tree_End.l0] at h
 | k + 1 => by
  have ih0 := tree_End.mono_l k
  ·intro y0 y1 y2
   unfold tree_End.l0
   repeat' first
   | (with_reducible exact ih0 _ _ _)
   | (with_reducible exact tree_Kids.mono _ _ _ _ _ _)
   | (with_reducible exact LeO.refl _)
   | (with_reducible exact LeO.none _)
   | (with_reducible refine LeO.ite ?_ ?_)
   | (with_reducible refine LeO.bind ?_ (fun _ => ?_))
   | exact ih0 _ _ _
   | exact tree_Kids.mono _ _ _ _ _ _
   | exact LeO.none _
   | refine LeO.ite ?_ ?_
   | refine LeO.bind ?_ (fun _ => ?_)
theorem tree_End.mono : ∀ a0 a1 k, LeO (tree_End.f k a0 a1) (tree_End.f (k + 1) a0 a1) := by
 intro a0 a1 k
 have ih0 := tree_End.mono_l k
 unfold tree_End.f
 repeat' first
   | (with_reducible exact ih0 _ _ _)
   | (with_reducible exact tree_Kids.mono _ _ _ _ _ _)
   | (with_reducible exact LeO.refl _)
   | (with_reducible exact LeO.none _)
   | (with_reducible refine LeO.ite ?_ ?_)
   | (with_reducible refine LeO.bind ?_ (fun _ => ?_))
   | exact ih0 _ _ _
   | exact tree_Kids.mono _ _ _ _ _ _
   | exact LeO.none _
   | refine LeO.ite ?_ ?_
   | refine LeO.bind ?_ (fun _ => ?_)
set_option maxHeartbeats 8000000 in
set_option maxRecDepth 100000 in
theorem tree_End.calls (k : Nat) (A0 : Option Addr) (c0 : Nat) (l0 : List (S25)) (a1 : Int) (r1 : Int) (r2 : Bool) (w : World) (hr0 : Kd.C k25 w A0 l0.length l0) (hc0 : l0.length ≤ c0) (h : tree_End.f k l0 a1 = some (r1, r2)) :
  Calls Try.prog 19 #[.slice A0 l0.length c0, .int .i64 a1] w fun e w' => e = .returned (.tuple #[.int .i64 r1, .bool r2]) ∧ Below w.heap.size w w' := by
 have hu25 := Try.underlying25
 have HR0 := am hr0
 have HC0 := am hc0
 clear hr0 hc0
 have HB := am (Below.refl w.heap.size w)
 have H : (tree_End.l0 k l0 a1 1) = some (r1, r2) := h
 clear h
 have H' := am H
 clear H
 go_enter Try.func19, Try.ntmps19
 go_wp2
 go_loopg [1, 6] k (fun kq v1 v6 w' => ∃ (x1_1 : Int) (x6_1 : Int), v1 = .int .i64 x1_1 ∧ v6 = .int .i64 x6_1 ∧ Aside0 (tree_End.l0 kq l0 x1_1 x6_1 = some (r1, r2)) ∧ Aside0 (kq ≤ k) ∧ Aside0 (Below w.heap.size w w'))
 case atStart => exact ⟨(a1), (1), (by first | rfl | (simp; done) | (simp [*]; done)), (by first | rfl | (simp; done) | (simp [*]; done)), H', ⟨Nat.le_refl _⟩, ⟨by repeat (first | (with_reducible first | exact HB.out | apply lA | apply lN | apply lD) | exact HB.out)⟩⟩
 case round =>
  clear H'
  try clear c1
  try clear p2
  obtain ⟨x1_1, x6_1, rfl, rfl, HA, HK1, HB⟩ := hrel
  cases gk with
  | zero => exact absurd HA.out (by simp [tree_End.l0])
  | succ k1 =>
   have H := HA.out
   clear HA
   simp only [tree_End.l0] at H
   by_cases c3 : x6_1 > 0
   ·rw [if_pos c3] at H
    have c3b0 : decide (0 < x6_1) = true := decide_eq_true c3
    clear c3
    by_cases c4 : x1_1 < 0
    ·rw [if_pos c4] at H
     have c4b0 : decide (x1_1 < 0) = true := decide_eq_true c4
     clear c4
     simp only [Option.some.injEq, Prod.mk.injEq] at H
     obtain ⟨rfl, rfl⟩ := H
     go_wp2
     go_ret2
     exact ⟨by first | rfl | (simp [errW_none, errW_some] <;> rfl) | (simp [*, errW_none, errW_some] <;> rfl), by repeat (first | (with_reducible first | exact HB.out | apply lA | apply lN | apply lD) | exact HB.out)⟩
    ·rw [if_neg c4] at H
     have c4b0 : decide (x1_1 < 0) = false := decide_eq_false c4
     clear c4
     by_cases c5 : x1_1 ≥ (l0.length : Int)
     ·rw [if_pos c5] at H
      have c5b0 : decide ((l0.length : Int) ≤ x1_1) = true := decide_eq_true c5
      clear c5
      simp only [Option.some.injEq, Prod.mk.injEq] at H
      obtain ⟨rfl, rfl⟩ := H
      go_wp2
      go_ret2
      exact ⟨by first | rfl | (simp [errW_none, errW_some] <;> rfl) | (simp [*, errW_none, errW_some] <;> rfl), by repeat (first | (with_reducible first | exact HB.out | apply lA | apply lN | apply lD) | exact HB.out)⟩
     ·rw [if_neg c5] at H
      have c5b0 : decide ((l0.length : Int) ≤ x1_1) = false := decide_eq_false c5
      clear c5
      by_cases c6 : 0 ≤ x1_1
      ·rw [if_pos c6] at H
       have c6b0 : decide (0 ≤ x1_1) = true := decide_eq_true c6
       clear c6
       by_cases c7 : x1_1 < (l0.length : Int)
       ·rw [if_pos c7] at H
        have c7b0 : decide (x1_1 < (l0.length : Int)) = true := decide_eq_true c7
        clear c7
        replace H := Option.bind_eq_some_iff.mp H
        obtain ⟨t105, A80, H⟩ := H
        replace H : (if t105 < 0 then (some (0, false)) else ((tree_Kids.f k1 ((rd_T25 l0 x1_1).f0) ((rd_T25 l0 x1_1).f1) ((rd_T25 l0 x1_1).f2) ((rd_T25 l0 x1_1).f3) ((rd_T25 l0 x1_1).f4)).bind fun t107 => (tree_End.l0 k1 l0 (wrap64 (x1_1 + 1)) (wrap64 ((wrap64 (x6_1 + t107)) - 1))))) = some (r1, r2) := H
        have A8 := am A80
        clear A80
        by_cases c9 : t105 < 0
        ·rw [if_pos c9] at H
         have c9b0 : decide (t105 < 0) = true := decide_eq_true c9
         clear c9
         simp only [Option.some.injEq, Prod.mk.injEq] at H
         obtain ⟨rfl, rfl⟩ := H
         have p104 : 0 ≤ (x1_1 : Int) := of_decide_eq_true (by first | (with_reducible assumption) | assumption)
         have q104 : x1_1 < (l0.length : Int) := of_decide_eq_true (by first | (with_reducible assumption) | assumption)
         obtain ⟨ad104, A104_4, c104_4, e104, hx104_0, hx104_1, hx104_2, hx104_3, hx104_4, hl104_4, hi104_4⟩ := at_T25 HR0.out x1_1 p104 q104
         cases e104
         replace hx104_0 := (HB.out.cell (World.block_lt_of_cell? w _ hx104_0)).trans hx104_0
         replace hx104_1 := (HB.out.cell (World.block_lt_of_cell? w _ hx104_1)).trans hx104_1
         replace hx104_2 := (HB.out.cell (World.block_lt_of_cell? w _ hx104_2)).trans hx104_2
         replace hx104_3 := (HB.out.cell (World.block_lt_of_cell? w _ hx104_3)).trans hx104_3
         replace hx104_4 := (HB.out.cell (World.block_lt_of_cell? w _ hx104_4)).trans hx104_4
         have HR104_4 := am hi104_4
         have HC104_4 := am hl104_4
         clear hi104_4 hl104_4
         replace p104 := eq_true p104
         replace q104 := eq_true q104
         go_wp2_with (first | (go_at_call 21; (with_reducible refine (tree_Kids.calls k1 ((rd_T25 l0 x1_1).f0) ((rd_T25 l0 x1_1).f1) ((rd_T25 l0 x1_1).f2) ((rd_T25 l0 x1_1).f3) _ _ ((rd_T25 l0 x1_1).f4) t105 _ ?side1 ?side2 A8.out).mono ?_); (case side1 => repeat (first | exact (Kd.C_below HR104_4.out HB.out) | (with_reducible refine Kd.C_alloc ?_ _) | (with_reducible refine Kd.C_drewN ?_ _) | (with_reducible refine Kd.C_drew ?_))); (case side2 => exact HC104_4.out); rintro e w10 ⟨rfl, hb⟩; have n0_ := am (below_step (by repeat (first | (with_reducible first | exact HB.out | apply lA | apply lN | apply lD) | exact HB.out)) hb); clear HB; have HB := n0_; clear n0_; (try clear hb); (try clear hb2); (try clear hk); (try clear hi)))
         go_ret2
         exact ⟨by first | rfl | (simp [errW_none, errW_some] <;> rfl) | (simp [*, errW_none, errW_some] <;> rfl), by repeat (first | (with_reducible first | exact HB.out | apply lA | apply lN | apply lD) | exact HB.out)⟩
        ·rw [if_neg c9] at H
         have c9b0 : decide (t105 < 0) = false := decide_eq_false c9
         clear c9
         replace H := Option.bind_eq_some_iff.mp H
         obtain ⟨t107, A110, H⟩ := H
         replace H : (tree_End.l0 k1 l0 (wrap64 (x1_1 + 1)) (wrap64 ((wrap64 (x6_1 + t107)) - 1))) = some (r1, r2) := H
         have A11 := am A110
         clear A110
         have H' := am H
         clear H
         have p104 : 0 ≤ (x1_1 : Int) := of_decide_eq_true (by first | (with_reducible assumption) | assumption)
         have q104 : x1_1 < (l0.length : Int) := of_decide_eq_true (by first | (with_reducible assumption) | assumption)
         obtain ⟨ad104, A104_4, c104_4, e104, hx104_0, hx104_1, hx104_2, hx104_3, hx104_4, hl104_4, hi104_4⟩ := at_T25 HR0.out x1_1 p104 q104
         cases e104
         replace hx104_0 := (HB.out.cell (World.block_lt_of_cell? w _ hx104_0)).trans hx104_0
         replace hx104_1 := (HB.out.cell (World.block_lt_of_cell? w _ hx104_1)).trans hx104_1
         replace hx104_2 := (HB.out.cell (World.block_lt_of_cell? w _ hx104_2)).trans hx104_2
         replace hx104_3 := (HB.out.cell (World.block_lt_of_cell? w _ hx104_3)).trans hx104_3
         replace hx104_4 := (HB.out.cell (World.block_lt_of_cell? w _ hx104_4)).trans hx104_4
         have HR104_4 := am hi104_4
         have HC104_4 := am hl104_4
         clear hi104_4 hl104_4
         replace p104 := eq_true p104
         replace q104 := eq_true q104
         go_wp2_with (first | (go_at_call 21; (with_reducible refine (tree_Kids.calls k1 ((rd_T25 l0 x1_1).f0) ((rd_T25 l0 x1_1).f1) ((rd_T25 l0 x1_1).f2) ((rd_T25 l0 x1_1).f3) _ _ ((rd_T25 l0 x1_1).f4) t105 _ ?side1 ?side2 A8.out).mono ?_); (case side1 => repeat (first | exact (Kd.C_below HR104_4.out HB.out) | (with_reducible refine Kd.C_alloc ?_ _) | (with_reducible refine Kd.C_drewN ?_ _) | (with_reducible refine Kd.C_drew ?_))); (case side2 => exact HC104_4.out); rintro e w12 ⟨rfl, hb⟩; have n0_ := am (below_step (by repeat (first | (with_reducible first | exact HB.out | apply lA | apply lN | apply lD) | exact HB.out)) hb); clear HB; have HB := n0_; clear n0_; (try clear hb); (try clear hb2); (try clear hk); (try clear hi); have p106 : 0 ≤ (x1_1 : Int) := of_decide_eq_true (by first | (with_reducible assumption) | assumption); have q106 : x1_1 < (l0.length : Int) := of_decide_eq_true (by first | (with_reducible assumption) | assumption); obtain ⟨ad106, A106_4, c106_4, e106, hx106_0, hx106_1, hx106_2, hx106_3, hx106_4, hl106_4, hi106_4⟩ := at_T25 HR0.out x1_1 p106 q106; obtain rfl : ad104 = ad106 := (by injection e106); replace hx106_0 := (HB.out.cell (World.block_lt_of_cell? w _ hx106_0)).trans hx106_0; replace hx106_1 := (HB.out.cell (World.block_lt_of_cell? w _ hx106_1)).trans hx106_1; replace hx106_2 := (HB.out.cell (World.block_lt_of_cell? w _ hx106_2)).trans hx106_2; replace hx106_3 := (HB.out.cell (World.block_lt_of_cell? w _ hx106_3)).trans hx106_3; replace hx106_4 := (HB.out.cell (World.block_lt_of_cell? w _ hx106_4)).trans hx106_4; have HR106_4 := am hi106_4; have HC106_4 := am hl106_4; clear hi106_4 hl106_4; replace p106 := eq_true p106; replace q106 := eq_true q106) | ((with_reducible refine gate_callee (f := 21) rfl ?_); refine goesL_ (some 32) rfl rfl Try.func21 (by kernel_rfl) rfl #[.agg #[.int .i64 ((rd_T25 l0 x1_1).f0), .string ((rd_T25 l0 x1_1).f1), .string ((rd_T25 l0 x1_1).f2), .string ((rd_T25 l0 x1_1).f3), .slice A106_4 ((rd_T25 l0 x1_1).f4).length c106_4]] rfl (by (try simp only [List.map_toArray, List.map_cons, List.map_nil]); first | done | rfl | (simp only [List.length_drop, List.length_take]; rfl)) ?_; (with_reducible refine (tree_Kids.calls k1 ((rd_T25 l0 x1_1).f0) ((rd_T25 l0 x1_1).f1) ((rd_T25 l0 x1_1).f2) ((rd_T25 l0 x1_1).f3) _ _ ((rd_T25 l0 x1_1).f4) t107 _ ?side1 ?side2 A11.out).mono ?_); (case side1 => repeat (first | exact (Kd.C_below HR106_4.out HB.out) | (with_reducible refine Kd.C_alloc ?_ _) | (with_reducible refine Kd.C_drewN ?_ _) | (with_reducible refine Kd.C_drew ?_))); (case side2 => exact HC106_4.out); rintro e w13 ⟨rfl, hb⟩; refine ⟨_, rfl, ?_⟩; have n0_ := am (below_step (by repeat (first | (with_reducible first | exact HB.out | apply lA | apply lN | apply lD) | exact HB.out)) hb); clear HB; have HB := n0_; clear n0_; (try clear hb); (try clear hb2); (try clear hk); (try clear hi)))
         go_roundg k1
         case measure => have := HK1.out; omega
         case rel => exact ⟨(wrap64 (x1_1 + 1)), (wrap64 ((wrap64 (x6_1 + t107)) - 1)), (by first | rfl | (simp; done) | (simp [*]; done)), (by first | rfl | (simp; done) | (simp [*]; done)), H', ⟨by have := HK1.out; omega⟩, ⟨by repeat (first | (with_reducible first | exact HB.out | apply lA | apply lN | apply lD) | exact HB.out)⟩⟩
       ·rw [if_neg c7] at H
        exact absurd H (by simp)
      ·rw [if_neg c6] at H
       exact absurd H (by simp)
   ·rw [if_neg c3] at H
    have c3b0 : decide (0 < x6_1) = false := decide_eq_false c3
    clear c3
    simp only [Option.some.injEq, Prod.mk.injEq] at H
    obtain ⟨rfl, rfl⟩ := H
    go_wp2
    go_ret2
    exact ⟨by first | rfl | (simp [errW_none, errW_some] <;> rfl) | (simp [*, errW_none, errW_some] <;> rfl), by repeat (first | (with_reducible first | exact HB.out | apply lA | apply lN | apply lD) | exact HB.out)⟩
def tree_Under.l0 : Nat → List (S25) → List Int → Int → Int → Int → Option (List Int)
 | 0, _, _, _, _, _ => none
 | k + 1, x0, x7, x8, x23, x24 => if x24 < x23 then (if x7.length < 17592186044416 then ((tree_End.f k x0 x8).bind fun bt115 => (tree_Under.l0 k x0 (x7 ++ [x8]) bt115.1 x23 (wrap64 (x24 + 1)))) else (none)) else (some x7)
def tree_Under.f (k : Nat) (l0 : List (S25)) (a1 : Int) : Option (List Int) := (tree_End.f k l0 a1).bind fun bt108 => (if bt108.2 = true then (if 0 ≤ a1 then (if a1 < (l0.length : Int) then ((tree_Kids.f k ((rd_T25 l0 a1).f0) ((rd_T25 l0 a1).f1) ((rd_T25 l0 a1).f2) ((rd_T25 l0 a1).f3) ((rd_T25 l0 a1).f4)).bind fun t111 => (tree_Under.l0 k l0 ([] : List Int) (wrap64 (a1 + 1)) t111 0)) else (none)) else (none)) else (some ([] : List Int)))
theorem tree_Under.mono_l : ∀ k, (∀ y0 y1 y2 y3 y4, LeO (tree_Under.l0 k y0 y1 y2 y3 y4) (tree_Under.l0 (k + 1) y0 y1 y2 y3 y4))
 | 0 => fun _ _ _ _ _ r h => by simp [tree_Under.l0] at h
 | k + 1 => by
  have ih0 := tree_Under.mono_l k
  ·intro y0 y1 y2 y3 y4
   unfold tree_Under.l0
   repeat' first
   | (with_reducible exact ih0 _ _ _ _ _)
   | (with_reducible exact tree_End.mono _ _ _)
   | (with_reducible exact tree_Kids.mono _ _ _ _ _ _)
   | (with_reducible exact LeO.refl _)
   | (with_reducible exact LeO.none _)
   | (with_reducible refine LeO.ite ?_ ?_)
   | (with_reducible refine LeO.bind ?_ (fun _ => ?_))
   | exact ih0 _ _ _ _ _
   | exact tree_End.mono _ _ _
   | exact tree_Kids.mono _ _ _ _ _ _
   | exact LeO.none _
   | refine LeO.ite ?_ ?_
   | refine LeO.bind ?_ (fun _ => ?_)
theorem tree_Under.mono : ∀ a0 a1 k, LeO (tree_Under.f k a0 a1) (tree_Under.f (k + 1) a0 a1) := by
 intro a0 a1 k
 have ih0 := tree_Under.mono_l k
 unfold tree_Under.f
 repeat' first
   | (with_reducible exact ih0 _ _ _ _ _)
   | (with_reducible exact tree_End.mono _ _ _)
   | (with_reducible exact tree_Kids.mono _ _ _ _ _ _)
   | (with_reducible exact LeO.refl _)
   | (with_reducible exact LeO.none _)
   | (with_reducible refine LeO.ite ?_ ?_)
   | (with_reducible refine LeO.bind ?_ (fun _ => ?_))
   | exact ih0 _ _ _ _ _
   | exact tree_End.mono _ _ _
   | exact tree_Kids.mono _ _ _ _ _ _
   | exact LeO.none _
   | refine LeO.ite ?_ ?_
   | refine LeO.bind ?_ (fun _ => ?_)
set_option maxHeartbeats 8000000 in
set_option maxRecDepth 100000 in
theorem tree_Under.calls (k : Nat) (A0 : Option Addr) (c0 : Nat) (l0 : List (S25)) (a1 : Int) (r : List Int) (w : World) (hr0 : Kd.C k25 w A0 l0.length l0) (hc0 : l0.length ≤ c0) (h : tree_Under.f k l0 a1 = some r) :
  Calls Try.prog 24 #[.slice A0 l0.length c0, .int .i64 a1] w fun e w' => ∃ v0_ : Value, e = .returned (v0_) ∧ Kd.R (Kd.int .i64) 3 w' w.heap.size (fun _ => True) v0_ r ∧ Below w.heap.size w w' := by
 have hu25 := Try.underlying25
 have HR0 := am hr0
 have HC0 := am hc0
 clear hr0 hc0
 have HB := am (Below.refl w.heap.size w)
 have H : ((tree_End.f k l0 a1).bind fun bt108 => (if bt108.2 = true then (if 0 ≤ a1 then (if a1 < (l0.length : Int) then ((tree_Kids.f k ((rd_T25 l0 a1).f0) ((rd_T25 l0 a1).f1) ((rd_T25 l0 a1).f2) ((rd_T25 l0 a1).f3) ((rd_T25 l0 a1).f4)).bind fun t111 => (tree_Under.l0 k l0 ([] : List Int) (wrap64 (a1 + 1)) t111 0)) else (none)) else (none)) else (some ([] : List Int)))) = some r := h
 clear h
 replace H := Option.bind_eq_some_iff.mp H
 obtain ⟨⟨t108, t109⟩, A30, H⟩ := H
 replace H : (if t109 = true then (if 0 ≤ a1 then (if a1 < (l0.length : Int) then ((tree_Kids.f k ((rd_T25 l0 a1).f0) ((rd_T25 l0 a1).f1) ((rd_T25 l0 a1).f2) ((rd_T25 l0 a1).f3) ((rd_T25 l0 a1).f4)).bind fun t111 => (tree_Under.l0 k l0 ([] : List Int) (wrap64 (a1 + 1)) t111 0)) else (none)) else (none)) else (some ([] : List Int))) = some r := H
 have A3 := am A30
 clear A30
 by_cases c4 : t109 = true
 ·subst c4
  have H1 : (if 0 ≤ a1 then (if a1 < (l0.length : Int) then ((tree_Kids.f k ((rd_T25 l0 a1).f0) ((rd_T25 l0 a1).f1) ((rd_T25 l0 a1).f2) ((rd_T25 l0 a1).f3) ((rd_T25 l0 a1).f4)).bind fun t111 => (tree_Under.l0 k l0 ([] : List Int) (wrap64 (a1 + 1)) t111 0)) else (none)) else (none)) = some r := by rw [if_pos rfl] at H; exact H
  clear H
  have H := H1
  clear H1
  by_cases c5 : 0 ≤ a1
  ·rw [if_pos c5] at H
   have c5b0 : decide (0 ≤ a1) = true := decide_eq_true c5
   clear c5
   by_cases c6 : a1 < (l0.length : Int)
   ·rw [if_pos c6] at H
    have c6b0 : decide (a1 < (l0.length : Int)) = true := decide_eq_true c6
    clear c6
    replace H := Option.bind_eq_some_iff.mp H
    obtain ⟨t111, A70, H⟩ := H
    replace H : (tree_Under.l0 k l0 ([] : List Int) (wrap64 (a1 + 1)) t111 0) = some r := H
    have A7 := am A70
    clear A70
    have H' := am H
    clear H
    go_enter Try.func24, Try.ntmps24
    go_wp2_with (first | ((with_reducible refine gate_callee (f := 19) rfl ?_); refine goesL_ (some 12) rfl rfl Try.func19 (by kernel_rfl) rfl #[.slice A0 l0.length c0, .int .i64 a1] rfl (by (try simp only [List.map_toArray, List.map_cons, List.map_nil]); first | done | rfl | (simp only [List.length_drop, List.length_take]; rfl)) ?_; (with_reducible refine (tree_End.calls k _ _ l0 a1 t108 true _ ?side1 ?side2 A3.out).mono ?_); (case side1 => repeat (first | exact HR0.out | (with_reducible refine Kd.C_alloc ?_ _) | (with_reducible refine Kd.C_drewN ?_ _) | (with_reducible refine Kd.C_drew ?_))); (case side2 => exact HC0.out); rintro e w8 ⟨rfl, hb⟩; refine ⟨_, rfl, ?_⟩; have n0_ := am (below_step (by repeat (first | (with_reducible first | exact HB.out | apply lA | apply lN | apply lD) | exact HB.out)) hb); clear HB; have HB := n0_; clear n0_; (try clear hb); (try clear hb2); (try clear hk); (try clear hi); have p110 : 0 ≤ (a1 : Int) := of_decide_eq_true (by first | (with_reducible assumption) | assumption); have q110 : a1 < (l0.length : Int) := of_decide_eq_true (by first | (with_reducible assumption) | assumption); obtain ⟨ad110, A110_4, c110_4, e110, hx110_0, hx110_1, hx110_2, hx110_3, hx110_4, hl110_4, hi110_4⟩ := at_T25 HR0.out a1 p110 q110; cases e110; replace hx110_0 := (HB.out.cell (World.block_lt_of_cell? w _ hx110_0)).trans hx110_0; replace hx110_1 := (HB.out.cell (World.block_lt_of_cell? w _ hx110_1)).trans hx110_1; replace hx110_2 := (HB.out.cell (World.block_lt_of_cell? w _ hx110_2)).trans hx110_2; replace hx110_3 := (HB.out.cell (World.block_lt_of_cell? w _ hx110_3)).trans hx110_3; replace hx110_4 := (HB.out.cell (World.block_lt_of_cell? w _ hx110_4)).trans hx110_4; have HR110_4 := am hi110_4; have HC110_4 := am hl110_4; clear hi110_4 hl110_4; replace p110 := eq_true p110; replace q110 := eq_true q110) | ((with_reducible refine gate_callee (f := 21) rfl ?_); refine goesL_ (some 23) rfl rfl Try.func21 (by kernel_rfl) rfl #[.agg #[.int .i64 ((rd_T25 l0 a1).f0), .string ((rd_T25 l0 a1).f1), .string ((rd_T25 l0 a1).f2), .string ((rd_T25 l0 a1).f3), .slice A110_4 ((rd_T25 l0 a1).f4).length c110_4]] rfl (by (try simp only [List.map_toArray, List.map_cons, List.map_nil]); first | done | rfl | (simp only [List.length_drop, List.length_take]; rfl)) ?_; (with_reducible refine (tree_Kids.calls k ((rd_T25 l0 a1).f0) ((rd_T25 l0 a1).f1) ((rd_T25 l0 a1).f2) ((rd_T25 l0 a1).f3) _ _ ((rd_T25 l0 a1).f4) t111 _ ?side1 ?side2 A7.out).mono ?_); (case side1 => repeat (first | exact (Kd.C_below HR110_4.out HB.out) | (with_reducible refine Kd.C_alloc ?_ _) | (with_reducible refine Kd.C_drewN ?_ _) | (with_reducible refine Kd.C_drew ?_))); (case side2 => exact HC110_4.out); rintro e w9 ⟨rfl, hb⟩; refine ⟨_, rfl, ?_⟩; have n0_ := am (below_step (by repeat (first | (with_reducible first | exact HB.out | apply lA | apply lN | apply lD) | exact HB.out)) hb); clear HB; have HB := n0_; clear n0_; (try clear hb); (try clear hb2); (try clear hk); (try clear hi)))
    go_loopg [7, 8, 24] k (fun kq v7 v8 v24 w' => ∃ (x7_1 : List Int) (x8_1 : Int) (x24_1 : Int), v8 = .int .i64 x8_1 ∧ v24 = .int .i64 x24_1 ∧ Aside0 (tree_Under.l0 kq l0 x7_1 x8_1 t111 x24_1 = some r) ∧ Aside0 (kq ≤ k) ∧ Aside0 (Kd.R (Kd.int .i64) 3 w' w.heap.size (fun _ => True) v7 x7_1) ∧ Aside0 (Below w.heap.size w w'))
    case atStart => exact ⟨(([] : List Int)), (wrap64 (a1 + 1)), (0), (by first | rfl | (simp; done) | (simp [*]; done)), (by first | rfl | (simp; done) | (simp [*]; done)), H', ⟨Nat.le_refl _⟩, ⟨by first | exact Kd.R_nil _ _ _ _ _ | exact Kd.N_nil _ _ _ _ _ | exact Kd.V_nil _ _ _ _ _ | exact Kd.Q_nil _ _ _ _ _ | exact Kd.S_nil _ _ _ _ _⟩, ⟨by repeat (first | (with_reducible first | exact HB.out | apply lA | apply lN | apply lD) | exact HB.out)⟩⟩
    case round =>
     clear H'
     try clear c1
     try clear p1
     try clear q1
     try clear hx1
     try clear c2
     try clear p2
     try clear c4
     try clear c5
     try clear c5b0
     try clear c6
     try clear c6b0
     try clear p6
     try clear hx110_0
     try clear hx110_1
     try clear hx110_2
     try clear hx110_3
     try clear hx110_4
     try clear p110
     try clear q110
     obtain ⟨x7_1, x8_1, x24_1, rfl, rfl, HA, HK1, HO_7, HB⟩ := hrel
     cases gk with
     | zero => exact absurd HA.out (by simp [tree_Under.l0])
     | succ k1 =>
      have H := HA.out
      clear HA
      simp only [tree_Under.l0] at H
      by_cases c10 : x24_1 < t111
      ·rw [if_pos c10] at H
       have c10b0 : decide (x24_1 < t111) = true := decide_eq_true c10
       clear c10
       by_cases c11 : x7_1.length < 17592186044416
       ·rw [if_pos c11] at H
        have LMc11 := am c11
        clear c11
        obtain ⟨y112, hy112⟩ : ∃ y_ : List Int, y_ = (x7_1 ++ [x8_1]) := ⟨_, rfl⟩
        replace H : ((tree_End.f k1 l0 x8_1).bind fun bt115 => (tree_Under.l0 k1 l0 y112 bt115.1 t111 (wrap64 (x24_1 + 1)))) = some r := by first | (rw [hy112]; with_reducible exact H) | (have H2_ := (Option.bind_some _ _).symm.trans H; rw [hy112]; with_reducible exact H2_) | (have H2_ := (Option.bind_some _ _).symm.trans H; with_reducible exact H2_) | with_reducible exact H | (rw [hy112]; exact H) | exact H
        have Ny112 := am hy112
        clear hy112
        replace H := Option.bind_eq_some_iff.mp H
        obtain ⟨⟨t115, t116⟩, A120, H⟩ := H
        replace H : (tree_Under.l0 k1 l0 y112 t115 t111 (wrap64 (x24_1 + 1))) = some r := H
        have A12 := am A120
        clear A120
        have H' := am H
        clear H
        go_wp2_with (first | ((with_reducible refine gate_builtin (b := .append) (xs := #[.tmp 26, .tmp 28]) rfl ?_); at_builtin; refine Kd.R_append (Kd.int .i64) (w0 := w) w.heap.size rfl (.tmp 26) (.tmp 28) 32 3 (.int .i64 0) 8 rfl Try.underlying32 info3 rfl (by decide) (by omega) u7 x7_1 x8_1 [.int .i64 x8_1] (fun _ => True) (fun _ => False) rfl rfl ?aP (fun _ hk => hk.elim) ?aF ?aO ?aB ?aS ?aL ?_; (case aP => exact rfl); (case aB => exact (by repeat (first | (with_reducible first | exact HB.out | apply lA | apply lN | apply lD) | exact HB.out))); (case aF => exact (fun _ _ => trivial)); (case aO => exact (by (with_reducible repeat (first | apply Kd.R_alloc | apply Kd.R_drewN | apply Kd.R_drew)); exact HO_7.out)); (case aS => exact (below_size (by repeat (first | (with_reducible first | exact HB.out | apply lA | apply lN | apply lD) | exact HB.out)))); (case aL => have := LMc11.out; omega); intro v113 w13 ho hb hg hat; rw [← Ny112.out] at ho; have n0_ := am (hb); have n1_ := am (ho); clear HB; clear HO_7; have HB := n0_; have HO114 := n1_; clear n0_ n1_; clear ho hb hg hat) | ((with_reducible refine gate_callee (f := 19) rfl ?_); refine goesL_ (some 33) rfl rfl Try.func19 (by kernel_rfl) rfl #[.slice (some ad110) l0.length c0, .int .i64 x8_1] rfl (by (try simp only [List.map_toArray, List.map_cons, List.map_nil]); first | done | rfl | (simp only [List.length_drop, List.length_take]; rfl)) ?_; (with_reducible refine (tree_End.calls k1 _ _ l0 x8_1 t115 t116 _ ?side1 ?side2 A12.out).mono ?_); (case side1 => repeat (first | exact (Kd.C_below HR0.out HB.out) | (with_reducible refine Kd.C_alloc ?_ _) | (with_reducible refine Kd.C_drewN ?_ _) | (with_reducible refine Kd.C_drew ?_))); (case side2 => exact HC0.out); rintro e w14 ⟨rfl, hb⟩; refine ⟨_, rfl, ?_⟩; have n0_ := am (Kd.R_below (by (with_reducible repeat (first | apply Kd.R_alloc | apply Kd.R_drewN | apply Kd.R_drew)); exact HO114.out) hb); have n1_ := am (below_step (by repeat (first | (with_reducible first | exact HB.out | apply lA | apply lN | apply lD) | exact HB.out)) hb); clear HO114; clear HB; have HO114 := n0_; have HB := n1_; clear n0_ n1_; (try clear hb); (try clear hb2); (try clear hk); (try clear hi)))
        go_roundg k1
        case measure => have := HK1.out; omega
        case rel => exact ⟨(y112), (t115), (wrap64 (x24_1 + 1)), (by first | rfl | (simp; done) | (simp [*]; done)), (by first | rfl | (simp; done) | (simp [*]; done)), H', ⟨by have := HK1.out; omega⟩, ⟨by (with_reducible repeat (first | apply Kd.R_alloc | apply Kd.R_drewN | apply Kd.R_drew)); exact HO114.out⟩, ⟨by repeat (first | (with_reducible first | exact HB.out | apply lA | apply lN | apply lD) | exact HB.out)⟩⟩
       ·rw [if_neg c11] at H
        exact absurd H (by simp)
      ·rw [if_neg c10] at H
       have c10b0 : decide (x24_1 < t111) = false := decide_eq_false c10
       clear c10
       obtain rfl := Option.some.inj H
       go_wp2
       go_ret
       exact ⟨_, by first | rfl | (simp [errW_none, errW_some] <;> rfl) | (simp [*, errW_none, errW_some] <;> rfl), by (with_reducible repeat (first | apply Kd.R_alloc | apply Kd.R_drewN | apply Kd.R_drew)); exact HO_7.out, by repeat (first | (with_reducible first | exact HB.out | apply lA | apply lN | apply lD) | exact HB.out)⟩
   ·rw [if_neg c6] at H
    exact absurd H (by simp)
  ·rw [if_neg c5] at H
   exact absurd H (by simp)
 ·replace c4 := Bool.eq_false_iff.mpr c4
  subst c4
  have H1 : (some ([] : List Int)) = some r := by rw [if_neg (show ¬ (false = true) by decide)] at H; exact H
  clear H
  have H := H1
  clear H1
  obtain rfl := Option.some.inj H
  go_enter Try.func24, Try.ntmps24
  go_wp2_with (first | ((with_reducible refine gate_callee (f := 19) rfl ?_); refine goesL_ (some 12) rfl rfl Try.func19 (by kernel_rfl) rfl #[.slice A0 l0.length c0, .int .i64 a1] rfl (by (try simp only [List.map_toArray, List.map_cons, List.map_nil]); first | done | rfl | (simp only [List.length_drop, List.length_take]; rfl)) ?_; (with_reducible refine (tree_End.calls k _ _ l0 a1 t108 false _ ?side1 ?side2 A3.out).mono ?_); (case side1 => repeat (first | exact HR0.out | (with_reducible refine Kd.C_alloc ?_ _) | (with_reducible refine Kd.C_drewN ?_ _) | (with_reducible refine Kd.C_drew ?_))); (case side2 => exact HC0.out); rintro e w15 ⟨rfl, hb⟩; refine ⟨_, rfl, ?_⟩; have n0_ := am (below_step (by repeat (first | (with_reducible first | exact HB.out | apply lA | apply lN | apply lD) | exact HB.out)) hb); clear HB; have HB := n0_; clear n0_; (try clear hb); (try clear hb2); (try clear hk); (try clear hi)))
  go_ret
  exact ⟨_, by first | rfl | (simp [errW_none, errW_some] <;> rfl) | (simp [*, errW_none, errW_some] <;> rfl), by first | exact Kd.R_nil _ _ _ _ _ | exact Kd.N_nil _ _ _ _ _ | exact Kd.V_nil _ _ _ _ _ | exact Kd.Q_nil _ _ _ _ _ | exact Kd.S_nil _ _ _ _ _, by repeat (first | (with_reducible first | exact HB.out | apply lA | apply lN | apply lD) | exact HB.out)⟩
end Go.Proofs.Ytdelccahgchadaa.P
end
section
namespace Go.Proofs.Ytdelccahgchadaa.P
open Go.RowKit Go.Proofs.YtdelccahgchadaaW.PrintWords Go.Proofs.YtdelccahgchadaaW.PrintLast Go.Proofs.YtdelccahgchadaaW.PrintMore
attribute [local go_sem] max2_int min2_int max_two min_two max_three min_three max_four min_four   
set_option linter.unusedVariables false
set_option linter.unusedSimpArgs false
mutual
def tree_Depth.l0 : Nat → Int → List Int → List (S25) → Int → Int → Option (Int)
 | 0, _, _, _, _, _ => none
 | k + 1, x5, x6, x16, x17, x18 => if x18 < x17 then (if 0 ≤ x18 then (if x18 < (x16.length : Int) then ((tree_Kids.f k ((rd_T25 x16 x18).f0) ((rd_T25 x16 x18).f1) ((rd_T25 x16 x18).f2) ((rd_T25 x16 x18).f3) ((rd_T25 x16 x18).f4)).bind fun t121 => (if x6.length < 17592186044416 then ((some (x6 ++ [t121] : List Int)).bind fun y122 => (tree_Depth.l1 k (mx x5 (y122.length : Int)) y122 x16 x17 x18)) else (none))) else (none)) else (none)) else (some x5)
def tree_Depth.l1 : Nat → Int → List Int → List (S25) → Int → Int → Option (Int)
 | 0, _, _, _, _, _ => none
 | k + 1, x5, x6, x16, x17, x18 => if (x6.length : Int) > 0 then (if 0 ≤ (wrap64 ((x6.length : Int) - 1)) then (if (wrap64 ((x6.length : Int) - 1)) < (x6.length : Int) then (tree_Depth.j2 k x5 x6 x16 x17 x18 ((rd x6 (wrap64 ((x6.length : Int) - 1))) == 0)) else (none)) else (none)) else (tree_Depth.j2 k x5 x6 x16 x17 x18 false)
def tree_Depth.j2 : Nat → Int → List Int → List (S25) → Int → Int → Bool → Option (Int)
 | 0, _, _, _, _, _, _ => none
 | k + 1, x5, x6, x16, x17, x18, x42 => if x42 = true then (if 0 ≤ (wrap64 ((x6.length : Int) - 1)) then (if (wrap64 ((x6.length : Int) - 1)) ≤ (x6.length : Int) then ((some (x6.take ((wrap64 ((x6.length : Int) - 1)) : Int).toNat : List Int)).bind fun y126 => (if (y126.length : Int) > 0 then (if 0 ≤ (wrap64 ((y126.length : Int) - 1)) then (if (wrap64 ((y126.length : Int) - 1)) < (y126.length : Int) then (tree_Depth.l1 k x5 (y126.set ((wrap64 ((y126.length : Int) - 1)) : Int).toNat (wrap64 ((rd y126 (wrap64 ((y126.length : Int) - 1))) - 1))) x16 x17 x18) else (none)) else (none)) else (tree_Depth.l1 k x5 y126 x16 x17 x18))) else (none)) else (none)) else (if (x6.length : Int) = 0 then (some x5) else (tree_Depth.l0 k x5 x6 x16 x17 (wrap64 (x18 + 1))))
end
def tree_Depth.f (k : Nat) (l0 : List (S25)) : Option (Int) := (tree_End.f k l0 0).bind fun bt117 => (if bt117.2 = true then (tree_Depth.l0 k 0 ([] : List Int) l0 (l0.length : Int) 0) else (some 0))
theorem tree_Depth.mono_l : ∀ k, (∀ y0 y1 y2 y3 y4, LeO (tree_Depth.l0 k y0 y1 y2 y3 y4) (tree_Depth.l0 (k + 1) y0 y1 y2 y3 y4)) ∧ (∀ y0 y1 y2 y3 y4, LeO (tree_Depth.l1 k y0 y1 y2 y3 y4) (tree_Depth.l1 (k + 1) y0 y1 y2 y3 y4)) ∧ (∀ y0 y1 y2 y3 y4 y5, LeO (tree_Depth.j2 k y0 y1 y2 y3 y4 y5) (tree_Depth.j2 (k + 1) y0 y1 y2 y3 y4 y5))
 | 0 => ⟨fun _ _ _ _ _ r h => by simp [tree_Depth.l0] at h, fun _ _ _ _ _ r h => by simp [tree_Depth.l1] at h, fun _ _ _ _ _ _ r h => by simp [tree_Depth.j2] at h⟩
 | k + 1 => by
  obtain ⟨ih0, ih1, ih2⟩ := tree_Depth.mono_l k
  refine ⟨?_, ?_, ?_⟩
  ·intro y0 y1 y2 y3 y4
   unfold tree_Depth.l0
   repeat' first
   | (with_reducible exact ih0 _ _ _ _ _)
   | (with_reducible exact ih1 _ _ _ _ _)
   | (with_reducible exact ih2 _ _ _ _ _ _)
   | (with_reducible exact tree_End.mono _ _ _)
   | (with_reducible exact tree_Kids.mono _ _ _ _ _ _)
   | (with_reducible exact LeO.refl _)
   | (with_reducible exact LeO.none _)
   | (with_reducible refine LeO.ite ?_ ?_)
   | (with_reducible refine LeO.bind ?_ (fun _ => ?_))
   | exact ih0 _ _ _ _ _
   | exact ih1 _ _ _ _ _
   | exact ih2 _ _ _ _ _ _
   | exact tree_End.mono _ _ _
   | exact tree_Kids.mono _ _ _ _ _ _
   | exact LeO.none _
   | refine LeO.ite ?_ ?_
   | refine LeO.bind ?_ (fun _ => ?_)
  ·intro y0 y1 y2 y3 y4
   unfold tree_Depth.l1
   repeat' first
   | (with_reducible exact ih0 _ _ _ _ _)
   | (with_reducible exact ih1 _ _ _ _ _)
   | (with_reducible exact ih2 _ _ _ _ _ _)
   | (with_reducible exact tree_End.mono _ _ _)
   | (with_reducible exact tree_Kids.mono _ _ _ _ _ _)
   | (with_reducible exact LeO.refl _)
   | (with_reducible exact LeO.none _)
   | (with_reducible refine LeO.ite ?_ ?_)
   | (with_reducible refine LeO.bind ?_ (fun _ => ?_))
   | exact ih0 _ _ _ _ _
   | exact ih1 _ _ _ _ _
   | exact ih2 _ _ _ _ _ _
   | exact tree_End.mono _ _ _
   | exact tree_Kids.mono _ _ _ _ _ _
   | exact LeO.none _
   | refine LeO.ite ?_ ?_
   | refine LeO.bind ?_ (fun _ => ?_)
  ·intro y0 y1 y2 y3 y4 y5
   unfold tree_Depth.j2
   repeat' first
   | (with_reducible exact ih0 _ _ _ _ _)
   | (with_reducible exact ih1 _ _ _ _ _)
   | (with_reducible exact ih2 _ _ _ _ _ _)
   | (with_reducible exact tree_End.mono _ _ _)
   | (with_reducible exact tree_Kids.mono _ _ _ _ _ _)
   | (with_reducible exact LeO.refl _)
   | (with_reducible exact LeO.none _)
   | (with_reducible refine LeO.ite ?_ ?_)
   | (with_reducible refine LeO.bind ?_ (fun _ => ?_))
   | exact ih0 _ _ _ _ _
   | exact ih1 _ _ _ _ _
   | exact ih2 _ _ _ _ _ _
   | exact tree_End.mono _ _ _
   | exact tree_Kids.mono _ _ _ _ _ _
   | exact LeO.none _
   | refine LeO.ite ?_ ?_
   | refine LeO.bind ?_ (fun _ => ?_)
theorem tree_Depth.mono : ∀ a0 k, LeO (tree_Depth.f k a0) (tree_Depth.f (k + 1) a0) := by
 intro a0 k
 obtain ⟨ih0, ih1, ih2⟩ := tree_Depth.mono_l k
 unfold tree_Depth.f
 repeat' first
   | (with_reducible exact ih0 _ _ _ _ _)
   | (with_reducible exact ih1 _ _ _ _ _)
   | (with_reducible exact ih2 _ _ _ _ _ _)
   | (with_reducible exact tree_End.mono _ _ _)
   | (with_reducible exact tree_Kids.mono _ _ _ _ _ _)
   | (with_reducible exact LeO.refl _)
   | (with_reducible exact LeO.none _)
   | (with_reducible refine LeO.ite ?_ ?_)
   | (with_reducible refine LeO.bind ?_ (fun _ => ?_))
   | exact ih0 _ _ _ _ _
   | exact ih1 _ _ _ _ _
   | exact ih2 _ _ _ _ _ _
   | exact tree_End.mono _ _ _
   | exact tree_Kids.mono _ _ _ _ _ _
   | exact LeO.none _
   | refine LeO.ite ?_ ?_
   | refine LeO.bind ?_ (fun _ => ?_)
set_option maxHeartbeats 8000000 in
set_option maxRecDepth 100000 in
theorem tree_Depth.calls (k : Nat) (A0 : Option Addr) (c0 : Nat) (l0 : List (S25)) (r : Int) (w : World) (hr0 : Kd.C k25 w A0 l0.length l0) (hc0 : l0.length ≤ c0) (h : tree_Depth.f k l0 = some r) :
  Calls Try.prog 26 #[.slice A0 l0.length c0] w fun e w' => e = .returned (.int .i64 r) ∧ Below w.heap.size w w' := by
 have hu25 := Try.underlying25
 have HR0 := am hr0
 have HC0 := am hc0
 clear hr0 hc0
 have HB := am (Below.refl w.heap.size w)
 have H : ((tree_End.f k l0 0).bind fun bt117 => (if bt117.2 = true then (tree_Depth.l0 k 0 ([] : List Int) l0 (l0.length : Int) 0) else (some 0))) = some r := h
 clear h
 replace H := Option.bind_eq_some_iff.mp H
 obtain ⟨⟨t117, t118⟩, A20, H⟩ := H
 replace H : (if t118 = true then (tree_Depth.l0 k 0 ([] : List Int) l0 (l0.length : Int) 0) else (some 0)) = some r := H
 have A2 := am A20
 clear A20
 by_cases c3 : t118 = true
 ·subst c3
  have H1 : (tree_Depth.l0 k 0 ([] : List Int) l0 (l0.length : Int) 0) = some r := by rw [if_pos rfl] at H; exact H
  clear H
  have H := H1
  clear H1
  have H' := am H
  clear H
  go_enter Try.func26, Try.ntmps26
  go_wp2_with (first | ((with_reducible refine gate_callee (f := 19) rfl ?_); refine goesL_ (some 11) rfl rfl Try.func19 (by kernel_rfl) rfl #[.slice A0 l0.length c0, .int .i64 0] rfl (by (try simp only [List.map_toArray, List.map_cons, List.map_nil]); first | done | rfl | (simp only [List.length_drop, List.length_take]; rfl)) ?_; (with_reducible refine (tree_End.calls k _ _ l0 0 t117 true _ ?side1 ?side2 A2.out).mono ?_); (case side1 => repeat (first | exact HR0.out | (with_reducible refine Kd.C_alloc ?_ _) | (with_reducible refine Kd.C_drewN ?_ _) | (with_reducible refine Kd.C_drew ?_))); (case side2 => exact HC0.out); rintro e w4 ⟨rfl, hb⟩; refine ⟨_, rfl, ?_⟩; have n0_ := am (below_step (by repeat (first | (with_reducible first | exact HB.out | apply lA | apply lN | apply lD) | exact HB.out)) hb); clear HB; have HB := n0_; clear n0_; (try clear hb); (try clear hb2); (try clear hk); (try clear hi)))
  go_loopg [5, 6, 18] k (fun kq v5 v6 v18 w' => ∃ (x5_1 : Int) (x6_1 : List Int) (x18_1 : Int), v5 = .int .i64 x5_1 ∧ v18 = .int .i64 x18_1 ∧ Aside0 (tree_Depth.l0 kq x5_1 x6_1 l0 (l0.length : Int) x18_1 = some r) ∧ Aside0 (kq ≤ k) ∧ Aside0 (Kd.R (Kd.int .i64) 3 w' w.heap.size (fun _ => True) v6 x6_1) ∧ Aside0 (Below w.heap.size w w'))
  case atStart => exact ⟨(0), (([] : List Int)), (0), (by first | rfl | (simp; done) | (simp [*]; done)), (by first | rfl | (simp; done) | (simp [*]; done)), H', ⟨Nat.le_refl _⟩, ⟨by first | exact Kd.R_nil _ _ _ _ _ | exact Kd.N_nil _ _ _ _ _ | exact Kd.V_nil _ _ _ _ _ | exact Kd.Q_nil _ _ _ _ _ | exact Kd.S_nil _ _ _ _ _⟩, ⟨by repeat (first | (with_reducible first | exact HB.out | apply lA | apply lN | apply lD) | exact HB.out)⟩⟩
  case round =>
   clear H'
   try clear c1
   try clear c2
   try clear p2
   try clear c3
   obtain ⟨x5_1, x6_1, x18_1, rfl, rfl, HA, HK1, HO_6, HB⟩ := hrel
   cases gk with
   | zero => exact absurd HA.out (by simp [tree_Depth.l0])
   | succ k1 =>
    have H := HA.out
    clear HA
    simp only [tree_Depth.l0] at H
    by_cases c5 : x18_1 < (l0.length : Int)
    ·rw [if_pos c5] at H
     have c5b0 : decide (x18_1 < (l0.length : Int)) = true := decide_eq_true c5
     clear c5
     by_cases c6 : 0 ≤ x18_1
     ·rw [if_pos c6] at H
      have c6b0 : decide (0 ≤ x18_1) = true := decide_eq_true c6
      clear c6
      by_cases c7 : x18_1 < (l0.length : Int)
      ·rw [if_pos c7] at H
       have c7b0 : decide (x18_1 < (l0.length : Int)) = true := decide_eq_true c7
       clear c7
       replace H := Option.bind_eq_some_iff.mp H
       obtain ⟨t121, A80, H⟩ := H
       replace H : (if x6_1.length < 17592186044416 then ((some (x6_1 ++ [t121] : List Int)).bind fun y122 => (tree_Depth.l1 k1 (mx x5_1 (y122.length : Int)) y122 l0 (l0.length : Int) x18_1)) else (none)) = some r := H
       have A8 := am A80
       clear A80
       by_cases c9 : x6_1.length < 17592186044416
       ·rw [if_pos c9] at H
        have LMc9 := am c9
        clear c9
        obtain ⟨y122, hy122⟩ : ∃ y_ : List Int, y_ = (x6_1 ++ [t121]) := ⟨_, rfl⟩
        replace H : (tree_Depth.l1 k1 (mx x5_1 (y122.length : Int)) y122 l0 (l0.length : Int) x18_1) = some r := by first | (rw [hy122]; with_reducible exact H) | (have H2_ := (Option.bind_some _ _).symm.trans H; rw [hy122]; with_reducible exact H2_) | (have H2_ := (Option.bind_some _ _).symm.trans H; with_reducible exact H2_) | with_reducible exact H | (rw [hy122]; exact H) | exact H
        have Ny122 := am hy122
        clear hy122
        obtain ⟨ji10, hji10⟩ : ∃ j_ : Int, (mx x5_1 (y122.length : Int)) = j_ := ⟨_, rfl⟩
        replace H : (tree_Depth.l1 k1 ji10 y122 l0 (l0.length : Int) x18_1) = some r := by first | (rw [hji10] at H; exact H) | (simp only [hji10] at H ⊢; exact H)
        (try rw [hji10] at A8)
        have hji10_ : (if x5_1 < (y122.length : Int) then (y122.length : Int) else x5_1) = ji10 := hji10
        have H' := am H
        clear H
        have p119 : 0 ≤ (x18_1 : Int) := of_decide_eq_true (by first | (with_reducible assumption) | assumption)
        have q119 : x18_1 < (l0.length : Int) := of_decide_eq_true (by first | (with_reducible assumption) | assumption)
        obtain ⟨ad119, A119_4, c119_4, e119, hx119_0, hx119_1, hx119_2, hx119_3, hx119_4, hl119_4, hi119_4⟩ := at_T25 HR0.out x18_1 p119 q119
        cases e119
        replace hx119_0 := (HB.out.cell (World.block_lt_of_cell? w _ hx119_0)).trans hx119_0
        replace hx119_1 := (HB.out.cell (World.block_lt_of_cell? w _ hx119_1)).trans hx119_1
        replace hx119_2 := (HB.out.cell (World.block_lt_of_cell? w _ hx119_2)).trans hx119_2
        replace hx119_3 := (HB.out.cell (World.block_lt_of_cell? w _ hx119_3)).trans hx119_3
        replace hx119_4 := (HB.out.cell (World.block_lt_of_cell? w _ hx119_4)).trans hx119_4
        have HR119_4 := am hi119_4
        have HC119_4 := am hl119_4
        clear hi119_4 hl119_4
        replace p119 := eq_true p119
        replace q119 := eq_true q119
        go_wp2_with (first | ((with_reducible refine gate_dst (N := 8) rfl ?_); (try (refine gate_guard (by rfl) ?_; dsimp only)); refine box_event ?hg (N := 8) ?hd (cs := #[.int .i64 0, .string (⟨#[]⟩ : ByteArray), .string (⟨#[]⟩ : ByteArray), .string (⟨#[]⟩ : ByteArray), .slice none 0 0]) (t := 25) ?hr ?_; (case hd => rfl); (case hg => rfl); (case hr => first | (go_simp; done) | (go_simp; rfl)); intro gb120 hg w11 hbox hb; have n0_ := am (Kd.R_below (by (with_reducible repeat (first | apply Kd.R_alloc | apply Kd.R_drewN | apply Kd.R_drew)); exact HO_6.out) hb); have n1_ := am (below_step (by repeat (first | (with_reducible first | exact HB.out | apply lA | apply lN | apply lD) | exact HB.out)) hb); have n2_ := am (hbox); have n3_ := am ((by rw [hg]; exact (below_size (by repeat (first | (with_reducible first | exact HB.out | apply lA | apply lN | apply lD) | exact HB.out))) : w.heap.size ≤ gb120)); have n4_ := n3_; clear HO_6; clear HB; have HO_6 := n0_; have HB := n1_; have BK120 := n2_; have GW120 := n3_; have GE120 := n4_; clear n0_ n1_ n2_ n3_ n4_; clear hb hbox hg; have hcz12_0 : w11.cell? ⟨gb120, 0, none⟩ = some (.int .i64 0) := (blk_cell BK120.out 0).trans rfl; have hcz12_1 : w11.cell? ⟨gb120, 1, none⟩ = some (.string (⟨#[]⟩ : ByteArray)) := (blk_cell BK120.out 1).trans rfl; have hcz12_2 : w11.cell? ⟨gb120, 2, none⟩ = some (.string (⟨#[]⟩ : ByteArray)) := (blk_cell BK120.out 2).trans rfl; have hcz12_3 : w11.cell? ⟨gb120, 3, none⟩ = some (.string (⟨#[]⟩ : ByteArray)) := (blk_cell BK120.out 3).trans rfl; have hcz12_4 : w11.cell? ⟨gb120, 4, none⟩ = some (.slice none 0 0) := (blk_cell BK120.out 4).trans rfl; have hfz12_0 := blk_frozen BK120.out 0; have hfz12_1 := blk_frozen BK120.out 1; have hfz12_2 := blk_frozen BK120.out 2; have hfz12_3 := blk_frozen BK120.out 3; have hfz12_4 := blk_frozen BK120.out 4) | ((with_reducible refine gate_callee (f := 21) rfl ?_); refine goesL_ (some 24) rfl rfl Try.func21 (by kernel_rfl) rfl #[.agg #[.int .i64 ((rd_T25 l0 x18_1).f0), .string ((rd_T25 l0 x18_1).f1), .string ((rd_T25 l0 x18_1).f2), .string ((rd_T25 l0 x18_1).f3), .slice A119_4 ((rd_T25 l0 x18_1).f4).length c119_4]] rfl (by (try simp only [List.map_toArray, List.map_cons, List.map_nil]); first | done | rfl | (simp only [List.length_drop, List.length_take]; rfl)) ?_; (with_reducible refine (tree_Kids.calls k1 ((rd_T25 l0 x18_1).f0) ((rd_T25 l0 x18_1).f1) ((rd_T25 l0 x18_1).f2) ((rd_T25 l0 x18_1).f3) _ _ ((rd_T25 l0 x18_1).f4) t121 _ ?side1 ?side2 A8.out).mono ?_); (case side1 => exact Kd.C_below HR119_4.out (by repeat (first | (with_reducible first | exact HB.out | apply lA | apply lN | apply lD | refine below_set ?_ GE120.out) | exact HB.out))); (case side2 => exact HC119_4.out); rintro e w13 ⟨rfl, hb⟩; refine ⟨_, rfl, ?_⟩; have n0_ := am (Kd.R_below (by (with_reducible repeat (first | apply Kd.R_alloc | apply Kd.R_drewN | apply Kd.R_drew)); exact (Kd.R_mono (Kd.R_far (p := ⟨gb120, 4, none⟩) (Kd.R_far (p := ⟨gb120, 3, none⟩) (Kd.R_far (p := ⟨gb120, 2, none⟩) (Kd.R_far (p := ⟨gb120, 1, none⟩) (Kd.R_far (p := ⟨gb120, 0, none⟩) (Kd.R_types HO_6.out BK120.out (by decide)) (fun _ hk => hk.2) (.int .i64 ((rd_T25 l0 x18_1).f0))) (fun _ hk => hk.2) (.string ((rd_T25 l0 x18_1).f1))) (fun _ hk => hk.2) (.string ((rd_T25 l0 x18_1).f2))) (fun _ hk => hk.2) (.string ((rd_T25 l0 x18_1).f3))) (fun _ hk => hk.2) (.slice A119_4 ((rd_T25 l0 x18_1).f4).length c119_4)) (fun _ h_ => h_.1))) hb); have n1_ := am (bB (g := gb120) (o := .cells #[.int .i64 ((rd_T25 l0 x18_1).f0), .string ((rd_T25 l0 x18_1).f1), .string ((rd_T25 l0 x18_1).f2), .string ((rd_T25 l0 x18_1).f3), .slice A119_4 ((rd_T25 l0 x18_1).f4).length c119_4] 25 (0, 0)) (by (with_reducible repeat (first | refine bN ?_ _ | refine bD ?_ | refine bA ?_ _)); refine blk_put (cs := #[.int .i64 ((rd_T25 l0 x18_1).f0), .string ((rd_T25 l0 x18_1).f1), .string ((rd_T25 l0 x18_1).f2), .string ((rd_T25 l0 x18_1).f3), .slice none 0 0]) ?_ 4 _ rfl; (with_reducible repeat (first | refine bN ?_ _ | refine bD ?_ | refine bA ?_ _)); refine blk_put (cs := #[.int .i64 ((rd_T25 l0 x18_1).f0), .string ((rd_T25 l0 x18_1).f1), .string ((rd_T25 l0 x18_1).f2), .string (⟨#[]⟩ : ByteArray), .slice none 0 0]) ?_ 3 _ rfl; (with_reducible repeat (first | refine bN ?_ _ | refine bD ?_ | refine bA ?_ _)); refine blk_put (cs := #[.int .i64 ((rd_T25 l0 x18_1).f0), .string ((rd_T25 l0 x18_1).f1), .string (⟨#[]⟩ : ByteArray), .string (⟨#[]⟩ : ByteArray), .slice none 0 0]) ?_ 2 _ rfl; (with_reducible repeat (first | refine bN ?_ _ | refine bD ?_ | refine bA ?_ _)); refine blk_put (cs := #[.int .i64 ((rd_T25 l0 x18_1).f0), .string (⟨#[]⟩ : ByteArray), .string (⟨#[]⟩ : ByteArray), .string (⟨#[]⟩ : ByteArray), .slice none 0 0]) ?_ 1 _ rfl; (with_reducible repeat (first | refine bN ?_ _ | refine bD ?_ | refine bA ?_ _)); refine blk_put (cs := #[.int .i64 0, .string (⟨#[]⟩ : ByteArray), .string (⟨#[]⟩ : ByteArray), .string (⟨#[]⟩ : ByteArray), .slice none 0 0]) ?_ 0 _ rfl; (with_reducible repeat (first | refine bN ?_ _ | refine bD ?_ | refine bA ?_ _)); exact BK120.out) hb); have n2_ := am (below_step (by repeat (first | (with_reducible first | exact HB.out | apply lA | apply lN | apply lD | refine below_set ?_ GE120.out) | exact HB.out)) hb); clear HO_6; clear BK120; clear HB; have HO_6 := n0_; have BK120 := n1_; have HB := n2_; clear n0_ n1_ n2_; (try clear hb); (try clear hb2); (try clear hk); (try clear hi)) | ((with_reducible refine gate_builtin (b := .append) (xs := #[.tmp 22, .tmp 25]) rfl ?_); (try (refine gate_guard (by rfl) ?_; dsimp only)); at_builtin; refine Kd.R_append (Kd.int .i64) (w0 := w) w.heap.size rfl (.tmp 22) (.tmp 25) 32 3 (.int .i64 0) 8 rfl Try.underlying32 info3 rfl (by decide) (by omega) u6 x6_1 t121 [.int .i64 t121] (fun _ => True) (fun _ => False) rfl rfl ?aP (fun _ hk => hk.elim) ?aF ?aO ?aB ?aS ?aL ?_; (case aP => exact rfl); (case aB => exact (by repeat (first | (with_reducible first | exact HB.out | apply lA | apply lN | apply lD | refine below_set ?_ GE120.out) | exact HB.out))); (case aF => exact (fun _ _ => trivial)); (case aO => exact (by (with_reducible repeat (first | apply Kd.R_alloc | apply Kd.R_drewN | apply Kd.R_drew)); exact HO_6.out)); (case aS => exact (below_size (by repeat (first | (with_reducible first | exact HB.out | apply lA | apply lN | apply lD | refine below_set ?_ GE120.out) | exact HB.out)))); (case aL => have := LMc9.out; omega); intro v123 w14 ho hb hg hat; rw [← Ny122.out] at ho; have n0_ := am (blk_grown (g := gb120) (o := .cells #[.int .i64 ((rd_T25 l0 x18_1).f0), .string ((rd_T25 l0 x18_1).f1), .string ((rd_T25 l0 x18_1).f2), .string ((rd_T25 l0 x18_1).f3), .slice A119_4 ((rd_T25 l0 x18_1).f4).length c119_4] 25 (0, 0)) (by (with_reducible repeat (first | refine bN ?_ _ | refine bD ?_ | refine bA ?_ _)); exact BK120.out) hg (Kd.R_ne HO_6.out BK120.out (by decide))); have n1_ := am (hb); have n2_ := am (ho); clear BK120; clear HB; clear HO_6; have BK120 := n0_; have HB := n1_; have HO124 := n2_; clear n0_ n1_ n2_; clear ho hb hg hat; obtain ⟨Ao15, co15, eo15⟩ := Kd.R_slice HO124.out; subst eo15))
        go_loopg [6] k1 (fun kq v6 w' => ∃ (x6_2 : List Int), Aside0 (tree_Depth.l1 kq ji10 x6_2 l0 (l0.length : Int) x18_1 = some r) ∧ Aside0 (kq ≤ k1) ∧ Aside0 (Kd.R (Kd.int .i64) 3 w' w.heap.size (fun _ => True) v6 x6_2) ∧ Aside0 (w'.heap[gb120]? = some (.cells #[.int .i64 ((rd_T25 l0 x18_1).f0), .string ((rd_T25 l0 x18_1).f1), .string ((rd_T25 l0 x18_1).f2), .string ((rd_T25 l0 x18_1).f3), (.slice A119_4 ((rd_T25 l0 x18_1).f4).length c119_4)] 25 (0, 0))) ∧ Aside0 (Below w.heap.size w w'))
        case atStart => exact ⟨(y122), H', ⟨Nat.le_refl _⟩, ⟨by (with_reducible repeat (first | apply Kd.R_alloc | apply Kd.R_drewN | apply Kd.R_drew)); exact HO124.out⟩, ⟨by (with_reducible repeat (first | refine bN ?_ _ | refine bD ?_ | refine bA ?_ _)); exact BK120.out⟩, ⟨by repeat (first | (with_reducible first | exact HB.out | apply lA | apply lN | apply lD | refine below_set ?_ GE120.out) | exact HB.out)⟩⟩
        case round =>
         clear H'
         try clear c1
         try clear p1
         try clear q1
         try clear hx1
         try clear c2
         try clear p2
         try clear c3
         try clear c5
         try clear c5b0
         try clear c6
         try clear c6b0
         try clear c7
         try clear c7b0
         try clear c9
         try clear c11
         try clear p11
         try clear q11
         try clear hx11
         try clear hcz12_0
         try clear hcz12_1
         try clear hcz12_2
         try clear hcz12_3
         try clear hcz12_4
         try clear hfz12_0
         try clear hfz12_1
         try clear hfz12_2
         try clear hfz12_3
         try clear hfz12_4
         try clear hx119_0
         try clear hx119_1
         try clear hx119_2
         try clear hx119_3
         try clear hx119_4
         try clear p119
         try clear p2
         try clear q119
         obtain ⟨x6_2, HA, HK2, HO_6, BK120, HB⟩ := hrel
         cases gk with
         | zero => exact absurd HA.out (by simp [tree_Depth.l1])
         | succ k2 =>
          have H := HA.out
          clear HA
          simp only [tree_Depth.l1] at H
          have HC16 := am H
          clear H
          go_upto_region 11 with (fail)
          go_cut [42] (fun v42 wc => ∃ (kq : Nat) (x42_15 : Bool), v42 = .bool x42_15 ∧ Aside0 (tree_Depth.j2 kq ji10 x6_2 l0 (l0.length : Int) x18_1 x42_15 = some r) ∧ Aside0 (kq ≤ k2) ∧ Aside0 (Kd.R (Kd.int .i64) 3 wc w.heap.size (fun _ => True) u6 x6_2) ∧ Aside0 (wc.heap[gb120]? = some (.cells #[.int .i64 ((rd_T25 l0 x18_1).f0), .string ((rd_T25 l0 x18_1).f1), .string ((rd_T25 l0 x18_1).f2), .string ((rd_T25 l0 x18_1).f3), (.slice A119_4 ((rd_T25 l0 x18_1).f4).length c119_4)] 25 (0, 0))) ∧ Aside0 (Below w.heap.size w wc))
          case first =>
           have H := HC16.out
           clear HC16
           by_cases c17 : (x6_2.length : Int) > 0
           ·rw [if_pos c17] at H
            have c17b0 : decide (0 < (x6_2.length : Int)) = true := decide_eq_true c17
            have c17b1 : decide (0 < x6_2.length) = true := decide_eq_true (by omega)
            clear c17
            (first | rw [c17b0] | (simp only [i64_w, i32_w]; rw [c17b0]) | skip)
            obtain ⟨ji18, hji18⟩ : ∃ j_ : Int, (wrap64 ((x6_2.length : Int) - 1)) = j_ := ⟨_, rfl⟩
            replace H : (if 0 ≤ (ji18) then (if (ji18) < (x6_2.length : Int) then (tree_Depth.j2 k2 ji10 x6_2 l0 (l0.length : Int) x18_1 ((rd x6_2 (ji18)) == 0)) else (none)) else (none)) = some r := by first | (rw [hji18] at H; exact H) | (simp only [hji18] at H ⊢; exact H)
            have hji18w : (IntKind.i64.wrap ((x6_2.length : Int) - 1)) = ji18 := (i64_w _).trans hji18
            by_cases c19 : 0 ≤ (ji18)
            ·rw [if_pos c19] at H
             have c19b0 : decide (0 ≤ (ji18)) = true := decide_eq_true c19
             clear c19
             by_cases c20 : (ji18) < (x6_2.length : Int)
             ·rw [if_pos c20] at H
              have c20b0 : decide ((ji18) < (x6_2.length : Int)) = true := decide_eq_true c20
              clear c20
              have H' := am H
              clear H
              obtain ⟨Ao21, co21, eo21⟩ := Kd.R_slice HO_6.out
              subst eo21
              have p125 : 0 ≤ ((ji18) : Int) := of_decide_eq_true (by first | (with_reducible assumption) | assumption)
              have q125 : (ji18) < (x6_2.length : Int) := of_decide_eq_true (by first | (with_reducible assumption) | assumption)
              obtain ⟨ad125, e125, hx125_0⟩ := Kd.at_int (Kd.R_reads' HO_6.out).2.2 (ji18) p125 q125
              cases e125
              replace p125 := eq_true p125
              replace q125 := eq_true q125
              go_wp2
              go_meet
              case rel => exact ⟨_, (((rd x6_2 (ji18)) == 0)), (by first | rfl | (simp; done) | (simp only [← hji18] <;> (first | rfl | simp)) | (simp [*]; done)), H', ⟨by have := HK1.out; have := HK2.out; first | omega | exact Nat.le_refl _⟩, ⟨by (with_reducible repeat (first | apply Kd.R_alloc | apply Kd.R_drewN | apply Kd.R_drew)); exact HO_6.out⟩, ⟨by (with_reducible repeat (first | refine bN ?_ _ | refine bD ?_ | refine bA ?_ _)); exact BK120.out⟩, ⟨by repeat (first | (with_reducible first | exact HB.out | apply lA | apply lN | apply lD | refine below_set ?_ GE120.out) | exact HB.out)⟩⟩
             ·rw [if_neg c20] at H
              exact absurd H (by simp)
            ·rw [if_neg c19] at H
             exact absurd H (by simp)
           ·rw [if_neg c17] at H
            have c17b0 : decide (0 < (x6_2.length : Int)) = false := decide_eq_false c17
            have c17b1 : decide (0 < x6_2.length) = false := decide_eq_false (by omega)
            clear c17
            (first | rw [c17b0] | (simp only [i64_w, i32_w]; rw [c17b0]) | skip)
            have H' := am H
            clear H
            obtain ⟨Ao22, co22, eo22⟩ := Kd.R_slice HO_6.out
            subst eo22
            go_wp2
            go_meet
            case rel => exact ⟨_, (false), (by first | rfl | (simp; done) | (simp [*]; done)), H', ⟨by have := HK1.out; have := HK2.out; first | omega | exact Nat.le_refl _⟩, ⟨by (with_reducible repeat (first | apply Kd.R_alloc | apply Kd.R_drewN | apply Kd.R_drew)); exact HO_6.out⟩, ⟨by (with_reducible repeat (first | refine bN ?_ _ | refine bD ?_ | refine bA ?_ _)); exact BK120.out⟩, ⟨by repeat (first | (with_reducible first | exact HB.out | apply lA | apply lN | apply lD | refine below_set ?_ GE120.out) | exact HB.out)⟩⟩
          case rest =>
           clear HC16
           try clear c1
           try clear p1
           try clear q1
           try clear hx1
           try clear c2
           try clear p2
           try clear c3
           try clear c5
           try clear c5b0
           try clear c6
           try clear c6b0
           try clear p6
           try clear c7
           try clear c7b0
           try clear c9
           try clear c11
           try clear p11
           try clear q11
           try clear hx11
           try clear p12
           try clear q12
           try clear hx12
           try clear c17
           try clear c17b0
           try clear c17b1
           try clear c19
           try clear c19b0
           try clear c20
           try clear c20b0
           try clear c21
           try clear hcz12_0
           try clear hcz12_1
           try clear hcz12_2
           try clear hcz12_3
           try clear hcz12_4
           try clear hfz12_0
           try clear hfz12_1
           try clear hfz12_2
           try clear hfz12_3
           try clear hfz12_4
           try clear hx119_0
           try clear hx119_1
           try clear hx119_2
           try clear hx119_3
           try clear hx119_4
           try clear hx125_0
           try clear p1
           try clear p11
           try clear p119
           try clear p125
           try clear p2
           try clear q1
           try clear q11
           try clear q119
           try clear q125
           obtain ⟨kq, x42_15, rfl, HA, HJ15, HO_6, BK120, HB⟩ := hcut
           cases kq with
           | zero => exact absurd HA.out (by simp [tree_Depth.j2])
           | succ kj15 =>
            have H := HA.out
            clear HA
            simp only [tree_Depth.j2] at H
            by_cases c23 : x42_15 = true
            ·subst c23
             have H1 : (if 0 ≤ (wrap64 ((x6_2.length : Int) - 1)) then (if (wrap64 ((x6_2.length : Int) - 1)) ≤ (x6_2.length : Int) then ((some (x6_2.take ((wrap64 ((x6_2.length : Int) - 1)) : Int).toNat : List Int)).bind fun y126 => (if (y126.length : Int) > 0 then (if 0 ≤ (wrap64 ((y126.length : Int) - 1)) then (if (wrap64 ((y126.length : Int) - 1)) < (y126.length : Int) then (tree_Depth.l1 kj15 ji10 (y126.set ((wrap64 ((y126.length : Int) - 1)) : Int).toNat (wrap64 ((rd y126 (wrap64 ((y126.length : Int) - 1))) - 1))) l0 (l0.length : Int) x18_1) else (none)) else (none)) else (tree_Depth.l1 kj15 ji10 y126 l0 (l0.length : Int) x18_1))) else (none)) else (none)) = some r := by rw [if_pos rfl] at H; exact H
             clear H
             have H := H1
             clear H1
             obtain ⟨ji24, hji24⟩ : ∃ j_ : Int, (wrap64 ((x6_2.length : Int) - 1)) = j_ := ⟨_, rfl⟩
             replace H : (if 0 ≤ (ji24) then (if (ji24) ≤ (x6_2.length : Int) then ((some (x6_2.take ((ji24) : Int).toNat : List Int)).bind fun y126 => (if (y126.length : Int) > 0 then (if 0 ≤ (wrap64 ((y126.length : Int) - 1)) then (if (wrap64 ((y126.length : Int) - 1)) < (y126.length : Int) then (tree_Depth.l1 kj15 ji10 (y126.set ((wrap64 ((y126.length : Int) - 1)) : Int).toNat (wrap64 ((rd y126 (wrap64 ((y126.length : Int) - 1))) - 1))) l0 (l0.length : Int) x18_1) else (none)) else (none)) else (tree_Depth.l1 kj15 ji10 y126 l0 (l0.length : Int) x18_1))) else (none)) else (none)) = some r := by first | (rw [hji24] at H; exact H) | (simp only [hji24] at H ⊢; exact H)
             have hji24w : (IntKind.i64.wrap ((x6_2.length : Int) - 1)) = ji24 := (i64_w _).trans hji24
             by_cases c25 : 0 ≤ (ji24)
             ·rw [if_pos c25] at H
              have c25b0 := eq_true c25
              have c25b1 : decide (0 ≤ (ji24)) = true := decide_eq_true c25
              clear c25
              by_cases c26 : (ji24) ≤ (x6_2.length : Int)
              ·rw [if_pos c26] at H
               have c26b0 := eq_true c26
               have c26b1 : decide ((ji24) ≤ (x6_2.length : Int)) = true := decide_eq_true c26
               clear c26
               obtain ⟨y126, hy126⟩ : ∃ y_ : List Int, y_ = (x6_2.take ((ji24) : Int).toNat) := ⟨_, rfl⟩
               replace H : (if (y126.length : Int) > 0 then (if 0 ≤ (wrap64 ((y126.length : Int) - 1)) then (if (wrap64 ((y126.length : Int) - 1)) < (y126.length : Int) then (tree_Depth.l1 kj15 ji10 (y126.set ((wrap64 ((y126.length : Int) - 1)) : Int).toNat (wrap64 ((rd y126 (wrap64 ((y126.length : Int) - 1))) - 1))) l0 (l0.length : Int) x18_1) else (none)) else (none)) else (tree_Depth.l1 kj15 ji10 y126 l0 (l0.length : Int) x18_1)) = some r := by first | (rw [hy126]; with_reducible exact H) | (have H2_ := (Option.bind_some _ _).symm.trans H; rw [hy126]; with_reducible exact H2_) | (have H2_ := (Option.bind_some _ _).symm.trans H; with_reducible exact H2_) | with_reducible exact H | (rw [hy126]; exact H) | exact H
               have Ny126 := am hy126
               clear hy126
               by_cases c27 : (y126.length : Int) > 0
               ·rw [if_pos c27] at H
                have c27b0 : decide (0 < (y126.length : Int)) = true := decide_eq_true c27
                have c27b1 : decide (0 < y126.length) = true := decide_eq_true (by omega)
                clear c27
                obtain ⟨ji28, hji28⟩ : ∃ j_ : Int, (wrap64 ((y126.length : Int) - 1)) = j_ := ⟨_, rfl⟩
                replace H : (if 0 ≤ (ji28) then (if (ji28) < (y126.length : Int) then (tree_Depth.l1 kj15 ji10 (y126.set ((ji28) : Int).toNat (wrap64 ((rd y126 (ji28)) - 1))) l0 (l0.length : Int) x18_1) else (none)) else (none)) = some r := by first | (rw [hji28] at H; exact H) | (simp only [hji28] at H ⊢; exact H)
                have hji28w : (IntKind.i64.wrap ((y126.length : Int) - 1)) = ji28 := (i64_w _).trans hji28
                by_cases c29 : 0 ≤ (ji28)
                ·rw [if_pos c29] at H
                 have c29b0 : decide (0 ≤ (ji28)) = true := decide_eq_true c29
                 clear c29
                 by_cases c30 : (ji28) < (y126.length : Int)
                 ·rw [if_pos c30] at H
                  have c30b0 : decide ((ji28) < (y126.length : Int)) = true := decide_eq_true c30
                  clear c30
                  obtain ⟨y130, hy130⟩ : ∃ y_ : List Int, y_ = (y126.set ((ji28) : Int).toNat (wrap64 ((rd y126 (ji28)) - 1))) := ⟨_, rfl⟩
                  replace H : (tree_Depth.l1 kj15 ji10 y130 l0 (l0.length : Int) x18_1) = some r := by first | (rw [hy130]; with_reducible exact H) | (have H2_ := (Option.bind_some _ _).symm.trans H; rw [hy130]; with_reducible exact H2_) | (have H2_ := (Option.bind_some _ _).symm.trans H; with_reducible exact H2_) | with_reducible exact H | (rw [hy130]; exact H) | exact H
                  have Ny130 := am hy130
                  clear hy130
                  have H' := am H
                  clear H
                  obtain ⟨Ao32, co32, eo32⟩ := Kd.R_slice HO_6.out
                  subst eo32
                  have q33 : ((ji24) : Int) ≤ ((x6_2.length : Int) : Int) := of_decide_eq_true (by first | (with_reducible assumption) | assumption)
                  obtain ⟨i033, hi033, _, hsz33, _⟩ := info_parts info3
                  have hcut33 := cut_to (P := Try.prog) 32 3 .i64 Try.underlying32 hi033 Ao32 x6_2.length co32 (ji24) (of_decide_eq_true (by first | (with_reducible assumption) | assumption)) q33 (Kd.R_reads' HO_6.out).2.1
                  have hr33 := Kd.R_take (m := ((ji24) : Int).toNat) HO_6.out (by omega)
                  have hy33 : y126.length = ((ji24) : Int).toNat := (by rw [Ny126.out, List.length_take]; omega)
                  rw [← Ny126.out] at hr33
                  rw [← hy33] at hr33 hcut33
                  clear hy33 hi033 hsz33 HO_6
                  have HO128 := am hr33
                  clear hr33
                  replace q33 := eq_true q33
                  have p129 : 0 ≤ ((ji28) : Int) := of_decide_eq_true (by first | (with_reducible assumption) | assumption)
                  have q129 : (ji28) < (y126.length : Int) := of_decide_eq_true (by first | (with_reducible assumption) | assumption)
                  obtain ⟨ad129, e129, hx129_0⟩ := Kd.at_int (Kd.R_reads' HO128.out).2.2 (ji28) p129 q129
                  cases e129
                  replace p129 := eq_true p129
                  replace q129 := eq_true q129
                  have p31 : 0 ≤ ((ji28) : Int) := of_decide_eq_true (by first | (with_reducible assumption) | assumption)
                  have q31 : ((ji28) : Int) < ((y126.length : Int) : Int) := of_decide_eq_true (by first | (with_reducible assumption) | assumption)
                  obtain ⟨go31, co31, eo31, gb31, gl31, cl31, HG31⟩ := Kd.R_form HO128.out (by omega)
                  (first | cases eo31 | (injection eo31 with ea_ en_ ec_; (first | subst ea_ | (injection ea_ with ea_; subst ea_)); subst ec_; clear en_))
                  have GB31 := am gb31
                  have GG31 := am HG31
                  clear gb31 gl31 HG31
                  (first | simp only [add_plain] at hx129_0 | skip)
                  obtain ⟨hx31_0, hf31_0⟩ := Kd.R_celln 0 HO128.out ((ji28) : Int) p31 q31
                  replace p31 := eq_true p31
                  replace q31 := eq_true q31
                  have HP34 := Kd.R_putg HO128.out ((ji28) : Int) (wrap64 ((rd y126 (ji28)) - 1))
                  go_wp2_with (first | ((with_reducible refine gate_store (t := 3) (p := 58) rfl ?_); refine store_event (t := 3) (p := 58) (v := ?vo_w35) (w1 := (wc.setCell ⟨go31, ((ji28) : Int).toNat, none⟩ (.int .i64 (wrap64 ((rd y126 (ji28)) - 1))))) ?hg ?ho ?hn ?hr ?_; (case ho => rfl); (case hg => rfl); (case hn => rfl); (case hr => first | (go_simp; done) | (go_simp; rfl)); intro w35 hw; have hg : wc.grownBy w35 (some go31) := (by rw [hw]; exact HP34.2); have hp_ : Kd.R (Kd.int .i64) 3 w35 w.heap.size (fun _ => True) (.slice (some ⟨go31, 0, none⟩) y126.length co32) y130 := (by rw [hw, Ny130.out]; exact HP34.1); clear HP34; have n0_ := am (hp_); have n1_ := am (blk_grown (g := gb120) (o := .cells #[.int .i64 ((rd_T25 l0 x18_1).f0), .string ((rd_T25 l0 x18_1).f1), .string ((rd_T25 l0 x18_1).f2), .string ((rd_T25 l0 x18_1).f3), .slice A119_4 ((rd_T25 l0 x18_1).f4).length c119_4] 25 (0, 0)) (by (with_reducible repeat (first | refine bN ?_ _ | refine bD ?_ | refine bA ?_ _)); exact BK120.out) hg (Kd.R_ne HO128.out BK120.out (by decide))); have n2_ := am ((by rw [hw]; exact below_set (HB.out) GB31.out : Below w.heap.size w w35)); clear HO128; clear BK120; clear HB; have HO128 := n0_; have BK120 := n1_; have HB := n2_; clear n0_ n1_ n2_; clear hg hw hp_))
                  go_roundg kj15
                  case measure => have := HK1.out; have := HK2.out; have := HJ15.out; omega
                  case rel => exact ⟨(y130), H', ⟨by have := HK1.out; have := HK2.out; have := HJ15.out; omega⟩, ⟨by (with_reducible repeat (first | apply Kd.R_alloc | apply Kd.R_drewN | apply Kd.R_drew)); exact HO128.out⟩, ⟨by (with_reducible repeat (first | refine bN ?_ _ | refine bD ?_ | refine bA ?_ _)); exact BK120.out⟩, ⟨by repeat (first | (with_reducible first | exact HB.out | apply lA | apply lN | apply lD | refine below_set ?_ GE120.out) | exact HB.out)⟩⟩
                 ·rw [if_neg c30] at H
                  exact absurd H (by simp)
                ·rw [if_neg c29] at H
                 exact absurd H (by simp)
               ·rw [if_neg c27] at H
                have c27b0 : decide (0 < (y126.length : Int)) = false := decide_eq_false c27
                have c27b1 : decide (0 < y126.length) = false := decide_eq_false (by omega)
                clear c27
                have H' := am H
                clear H
                obtain ⟨Ao36, co36, eo36⟩ := Kd.R_slice HO_6.out
                subst eo36
                have q37 : ((ji24) : Int) ≤ ((x6_2.length : Int) : Int) := of_decide_eq_true (by first | (with_reducible assumption) | assumption)
                obtain ⟨i037, hi037, _, hsz37, _⟩ := info_parts info3
                have hcut37 := cut_to (P := Try.prog) 32 3 .i64 Try.underlying32 hi037 Ao36 x6_2.length co36 (ji24) (of_decide_eq_true (by first | (with_reducible assumption) | assumption)) q37 (Kd.R_reads' HO_6.out).2.1
                have hr37 := Kd.R_take (m := ((ji24) : Int).toNat) HO_6.out (by omega)
                have hy37 : y126.length = ((ji24) : Int).toNat := (by rw [Ny126.out, List.length_take]; omega)
                rw [← Ny126.out] at hr37
                rw [← hy37] at hr37 hcut37
                clear hy37 hi037 hsz37 HO_6
                have HO128 := am hr37
                clear hr37
                replace q37 := eq_true q37
                go_wp2
                go_roundg kj15
                case measure => have := HK1.out; have := HK2.out; have := HJ15.out; omega
                case rel => exact ⟨(y126), H', ⟨by have := HK1.out; have := HK2.out; have := HJ15.out; omega⟩, ⟨by (with_reducible repeat (first | apply Kd.R_alloc | apply Kd.R_drewN | apply Kd.R_drew)); exact HO128.out⟩, ⟨by (with_reducible repeat (first | refine bN ?_ _ | refine bD ?_ | refine bA ?_ _)); exact BK120.out⟩, ⟨by repeat (first | (with_reducible first | exact HB.out | apply lA | apply lN | apply lD | refine below_set ?_ GE120.out) | exact HB.out)⟩⟩
              ·rw [if_neg c26] at H
               exact absurd H (by simp)
             ·rw [if_neg c25] at H
              exact absurd H (by simp)
            ·replace c23 := Bool.eq_false_iff.mpr c23
             subst c23
             have H1 : (if (x6_2.length : Int) = 0 then (some ji10) else (tree_Depth.l0 kj15 ji10 x6_2 l0 (l0.length : Int) (wrap64 (x18_1 + 1)))) = some r := by rw [if_neg (show ¬ (false = true) by decide)] at H; exact H
             clear H
             have H := H1
             clear H1
             by_cases c38 : (x6_2.length : Int) = 0
             ·rw [if_pos c38] at H
              have c38b0 : ((x6_2.length : Int) == 0) = true := beq_iff_eq.mpr c38
              have c38b1 : ((x6_2.length : Int) != 0) = false := bne_eq_false_iff_eq.mpr c38
              clear c38
              obtain rfl := Option.some.inj H
              obtain ⟨Ao39, co39, eo39⟩ := Kd.R_slice HO_6.out
              subst eo39
              go_wp2
              go_ret
              exact ⟨by first | rfl | (simp [errW_none, errW_some] <;> rfl) | (simp only [← hji10]; first | rfl | (simp [errW_none, errW_some] <;> rfl)) | (simp [*, errW_none, errW_some] <;> rfl), by repeat (first | (with_reducible first | exact HB.out | apply lA | apply lN | apply lD | refine below_set ?_ GE120.out) | exact HB.out)⟩
             ·rw [if_neg c38] at H
              have c38b0 : ((x6_2.length : Int) == 0) = false := beq_eq_false_iff_ne.mpr c38
              have c38b1 : ((x6_2.length : Int) != 0) = true := bne_iff_ne.mpr c38
              have c38b2 : ¬ (x6_2 = []) := fun h_ => c38 (by rw [h_]; rfl)
              have H' := am H
              clear H
              obtain ⟨Ao40, co40, eo40⟩ := Kd.R_slice HO_6.out
              subst eo40
              go_wp2
              go_roundg kj15
              case measure => have := HK1.out; have := HK2.out; have := HJ15.out; omega
              case rel => exact ⟨(ji10), (x6_2), (wrap64 (x18_1 + 1)), (by first | rfl | (simp; done) | (simp only [← hji10] <;> (first | rfl | simp)) | (simp [*]; done)), (by first | rfl | (simp; done) | (simp [*]; done)), H', ⟨by have := HK1.out; have := HK2.out; have := HJ15.out; omega⟩, ⟨by (with_reducible repeat (first | apply Kd.R_alloc | apply Kd.R_drewN | apply Kd.R_drew)); exact HO_6.out⟩, ⟨by repeat (first | (with_reducible first | exact HB.out | apply lA | apply lN | apply lD | refine below_set ?_ GE120.out) | exact HB.out)⟩⟩
       ·rw [if_neg c9] at H
        exact absurd H (by simp)
      ·rw [if_neg c7] at H
       exact absurd H (by simp)
     ·rw [if_neg c6] at H
      exact absurd H (by simp)
    ·rw [if_neg c5] at H
     have c5b0 : decide (x18_1 < (l0.length : Int)) = false := decide_eq_false c5
     clear c5
     obtain rfl := Option.some.inj H
     go_wp2
     go_ret
     exact ⟨by first | rfl | (simp [errW_none, errW_some] <;> rfl) | (simp [*, errW_none, errW_some] <;> rfl), by repeat (first | (with_reducible first | exact HB.out | apply lA | apply lN | apply lD) | exact HB.out)⟩
 ·replace c3 := Bool.eq_false_iff.mpr c3
  subst c3
  have H1 : (some 0) = some r := by rw [if_neg (show ¬ (false = true) by decide)] at H; exact H
  clear H
  have H := H1
  clear H1
  obtain rfl := Option.some.inj H
  go_enter Try.func26, Try.ntmps26
  go_wp2_with (first | ((with_reducible refine gate_callee (f := 19) rfl ?_); refine goesL_ (some 11) rfl rfl Try.func19 (by kernel_rfl) rfl #[.slice A0 l0.length c0, .int .i64 0] rfl (by (try simp only [List.map_toArray, List.map_cons, List.map_nil]); first | done | rfl | (simp only [List.length_drop, List.length_take]; rfl)) ?_; (with_reducible refine (tree_End.calls k _ _ l0 0 t117 false _ ?side1 ?side2 A2.out).mono ?_); (case side1 => repeat (first | exact HR0.out | (with_reducible refine Kd.C_alloc ?_ _) | (with_reducible refine Kd.C_drewN ?_ _) | (with_reducible refine Kd.C_drew ?_))); (case side2 => exact HC0.out); rintro e w41 ⟨rfl, hb⟩; refine ⟨_, rfl, ?_⟩; have n0_ := am (below_step (by repeat (first | (with_reducible first | exact HB.out | apply lA | apply lN | apply lD) | exact HB.out)) hb); clear HB; have HB := n0_; clear n0_; (try clear hb); (try clear hb2); (try clear hk); (try clear hi)))
  go_ret
  exact ⟨by first | rfl | (simp [errW_none, errW_some] <;> rfl) | (simp [*, errW_none, errW_some] <;> rfl), by repeat (first | (with_reducible first | exact HB.out | apply lA | apply lN | apply lD) | exact HB.out)⟩
end Go.Proofs.Ytdelccahgchadaa.P
end
section
namespace Go.Proofs.Ytdelccahgchadaa.P
open Go.RowKit Go.Proofs.YtdelccahgchadaaW.PrintWords Go.Proofs.YtdelccahgchadaaW.PrintLast Go.Proofs.YtdelccahgchadaaW.PrintMore
attribute [local go_sem] max2_int min2_int max_two min_two max_three min_three max_four min_four   
set_option linter.unusedVariables false
set_option linter.unusedSimpArgs false
def num_May.f (a0 : ByteArray) : Option (Bool) := (strings_TrimPrefix.f a0 (⟨#[45]⟩ : ByteArray)).bind fun t131 => (if (t131.size : Int) < 1 then (some false) else (if (t131.size : Int) > 100 then (some false) else (if 0 < (t131.size : Int) then (if (bt t131 0) = 48 then (if a0.toList = ([48] : List UInt8) then ((ContainsFunc_May.f t131).bind fun t132 => (some (!t132))) else (some false)) else ((ContainsFunc_May.f t131).bind fun t133 => (some (!t133)))) else (none))))
set_option maxHeartbeats 8000000 in
set_option maxRecDepth 100000 in
theorem num_May.calls (a0 : ByteArray) (r : Bool) (w : World) (h : num_May.f a0 = some r) :
  Calls Try.prog 57 #[.string a0] w fun e w' => e = .returned (.bool r) ∧ Below w.heap.size w w' := by
 have HB := am (Below.refl w.heap.size w)
 have H : ((strings_TrimPrefix.f a0 (⟨#[45]⟩ : ByteArray)).bind fun t131 => (if (t131.size : Int) < 1 then (some false) else (if (t131.size : Int) > 100 then (some false) else (if 0 < (t131.size : Int) then (if (bt t131 0) = 48 then (if a0.toList = ([48] : List UInt8) then ((ContainsFunc_May.f t131).bind fun t132 => (some (!t132))) else (some false)) else ((ContainsFunc_May.f t131).bind fun t133 => (some (!t133)))) else (none))))) = some r := h
 clear h
 replace H := Option.bind_eq_some_iff.mp H
 obtain ⟨t131, A20, H⟩ := H
 replace H : (if (t131.size : Int) < 1 then (some false) else (if (t131.size : Int) > 100 then (some false) else (if 0 < (t131.size : Int) then (if (bt t131 0) = 48 then (if a0.toList = ([48] : List UInt8) then ((ContainsFunc_May.f t131).bind fun t132 => (some (!t132))) else (some false)) else ((ContainsFunc_May.f t131).bind fun t133 => (some (!t133)))) else (none)))) = some r := H
 have A2 := am A20
 clear A20
 by_cases c3 : (t131.size : Int) < 1
 ·rw [if_pos c3] at H
  have c3b0 : decide ((t131.size : Int) < 1) = true := decide_eq_true c3
  have c3b1 : decide (t131.size < 1) = true := decide_eq_true (by omega)
  clear c3
  obtain rfl := Option.some.inj H
  go_enter Try.func57, Try.ntmps57
  go_wp2_with (first | ((with_reducible refine gate_callee (f := 80) rfl ?_); refine goesL_ (some 5) rfl rfl Try.func80 (by kernel_rfl) rfl #[.string a0, .string (⟨#[45]⟩ : ByteArray)] rfl (by (try simp only [List.map_toArray, List.map_cons, List.map_nil]); first | done | rfl | (simp only [List.length_drop, List.length_take]; rfl)) ?_; (with_reducible refine (strings_TrimPrefix.calls a0 (⟨#[45]⟩ : ByteArray) t131 _ A2.out).mono ?_); rintro e w' ⟨rfl, ⟨nd, rfl⟩⟩; refine ⟨_, rfl, ?_⟩))
  go_ret
  exact ⟨by first | rfl | (simp [errW_none, errW_some] <;> rfl) | (simp [*, errW_none, errW_some] <;> rfl), by repeat (first | (with_reducible first | exact HB.out | apply lA | apply lN | apply lD) | exact HB.out)⟩
 ·rw [if_neg c3] at H
  have c3b0 : decide ((t131.size : Int) < 1) = false := decide_eq_false c3
  have c3b1 : decide (t131.size < 1) = false := decide_eq_false (by omega)
  clear c3
  by_cases c4 : (t131.size : Int) > 100
  ·rw [if_pos c4] at H
   have c4b0 : decide (100 < (t131.size : Int)) = true := decide_eq_true c4
   have c4b1 : decide (100 < t131.size) = true := decide_eq_true (by omega)
   clear c4
   obtain rfl := Option.some.inj H
   go_enter Try.func57, Try.ntmps57
   go_wp2_with (first | ((with_reducible refine gate_callee (f := 80) rfl ?_); refine goesL_ (some 5) rfl rfl Try.func80 (by kernel_rfl) rfl #[.string a0, .string (⟨#[45]⟩ : ByteArray)] rfl (by (try simp only [List.map_toArray, List.map_cons, List.map_nil]); first | done | rfl | (simp only [List.length_drop, List.length_take]; rfl)) ?_; (with_reducible refine (strings_TrimPrefix.calls a0 (⟨#[45]⟩ : ByteArray) t131 _ A2.out).mono ?_); rintro e w' ⟨rfl, ⟨nd, rfl⟩⟩; refine ⟨_, rfl, ?_⟩))
   go_ret
   exact ⟨by first | rfl | (simp [errW_none, errW_some] <;> rfl) | (simp [*, errW_none, errW_some] <;> rfl), by repeat (first | (with_reducible first | exact HB.out | apply lA | apply lN | apply lD) | exact HB.out)⟩
  ·rw [if_neg c4] at H
   have c4b0 : decide (100 < (t131.size : Int)) = false := decide_eq_false c4
   have c4b1 : decide (100 < t131.size) = false := decide_eq_false (by omega)
   clear c4
   by_cases c5 : 0 < (t131.size : Int)
   ·rw [if_pos c5] at H
    have c5b0 : decide (0 < (t131.size : Int)) = true := decide_eq_true c5
    have c5b1 : decide (0 < t131.size) = true := decide_eq_true (by omega)
    clear c5
    by_cases c7 : (bt t131 0) = 48
    ·rw [if_pos c7] at H
     have c7b0 : ((bt t131 0) == 48) = true := beq_iff_eq.mpr c7
     have c7b1 : ((bt t131 0) != 48) = false := bne_eq_false_iff_eq.mpr c7
     clear c7
     by_cases c8 : a0.toList = ([48] : List UInt8)
     ·rw [if_pos c8] at H
      have c8b0 : (a0.toList == ([48] : List UInt8)) = true := beq_iff_eq.mpr c8
      have c8b1 : (a0.toList != ([48] : List UInt8)) = false := bne_eq_false_iff_eq.mpr c8
      clear c8
      replace H := Option.bind_eq_some_iff.mp H
      obtain ⟨t132, A90, H⟩ := H
      replace H : (some (!t132)) = some r := H
      have A9 := am A90
      clear A90
      obtain rfl := Option.some.inj H
      go_enter Try.func57, Try.ntmps57
      go_wp2_with (first | ((with_reducible refine gate_callee (f := 80) rfl ?_); refine goesL_ (some 5) rfl rfl Try.func80 (by kernel_rfl) rfl #[.string a0, .string (⟨#[45]⟩ : ByteArray)] rfl (by (try simp only [List.map_toArray, List.map_cons, List.map_nil]); first | done | rfl | (simp only [List.length_drop, List.length_take]; rfl)) ?_; (with_reducible refine (strings_TrimPrefix.calls a0 (⟨#[45]⟩ : ByteArray) t131 _ A2.out).mono ?_); rintro e w' ⟨rfl, ⟨nd, rfl⟩⟩; refine ⟨_, rfl, ?_⟩; have p6 : 0 ≤ (0 : Int) := (by omega); have q6 : 0 < t131.size := (by have : (0 : Int) < (t131.size : Int) := of_decide_eq_true (by first | (with_reducible assumption) | assumption); omega); have hx6 : ∀ h : 0 < t131.size, ((t131[0]'h).toNat : Int) = bt t131 0 := bt_at t131 0; clear p6; have qi6 : (0 < (t131.size : Int)) = True := eq_true (of_decide_eq_true (by first | (with_reducible assumption) | assumption)); replace q6 := eq_true q6) | ((with_reducible refine gate_callee (f := 81) rfl ?_); refine goesL_ (some 24) rfl rfl Try.func81 (by kernel_rfl) rfl #[.string t131, .func (.func 82) #[] #[]] rfl (by (try simp only [List.map_toArray, List.map_cons, List.map_nil]); first | done | rfl | (simp only [List.length_drop, List.length_take]; rfl)) ?_; (with_reducible refine (ContainsFunc_May.calls t131  t132 _ A9.out).mono ?_); rintro e w10 ⟨rfl, hb⟩; refine ⟨_, rfl, ?_⟩; have n0_ := am (below_step (by repeat (first | (with_reducible first | exact HB.out | apply lA | apply lN | apply lD) | exact HB.out)) hb); clear HB; have HB := n0_; clear n0_; (try clear hb); (try clear hb2); (try clear hk); (try clear hi)))
      go_ret
      exact ⟨by first | rfl | (simp [errW_none, errW_some] <;> rfl) | (simp [*, errW_none, errW_some] <;> rfl), by repeat (first | (with_reducible first | exact HB.out | apply lA | apply lN | apply lD) | exact HB.out)⟩
     ·rw [if_neg c8] at H
      have c8b0 : (a0.toList == ([48] : List UInt8)) = false := beq_eq_false_iff_ne.mpr c8
      have c8b1 : (a0.toList != ([48] : List UInt8)) = true := bne_iff_ne.mpr c8
      obtain rfl := Option.some.inj H
      go_enter Try.func57, Try.ntmps57
      go_wp2_with (first | ((with_reducible refine gate_callee (f := 80) rfl ?_); refine goesL_ (some 5) rfl rfl Try.func80 (by kernel_rfl) rfl #[.string a0, .string (⟨#[45]⟩ : ByteArray)] rfl (by (try simp only [List.map_toArray, List.map_cons, List.map_nil]); first | done | rfl | (simp only [List.length_drop, List.length_take]; rfl)) ?_; (with_reducible refine (strings_TrimPrefix.calls a0 (⟨#[45]⟩ : ByteArray) t131 _ A2.out).mono ?_); rintro e w' ⟨rfl, ⟨nd, rfl⟩⟩; refine ⟨_, rfl, ?_⟩; have p6 : 0 ≤ (0 : Int) := (by omega); have q6 : 0 < t131.size := (by have : (0 : Int) < (t131.size : Int) := of_decide_eq_true (by first | (with_reducible assumption) | assumption); omega); have hx6 : ∀ h : 0 < t131.size, ((t131[0]'h).toNat : Int) = bt t131 0 := bt_at t131 0; clear p6; have qi6 : (0 < (t131.size : Int)) = True := eq_true (of_decide_eq_true (by first | (with_reducible assumption) | assumption)); replace q6 := eq_true q6))
      go_ret
      exact ⟨by first | rfl | (simp [errW_none, errW_some] <;> rfl) | (simp [*, errW_none, errW_some] <;> rfl), by repeat (first | (with_reducible first | exact HB.out | apply lA | apply lN | apply lD) | exact HB.out)⟩
    ·rw [if_neg c7] at H
     have c7b0 : ((bt t131 0) == 48) = false := beq_eq_false_iff_ne.mpr c7
     have c7b1 : ((bt t131 0) != 48) = true := bne_iff_ne.mpr c7
     replace H := Option.bind_eq_some_iff.mp H
     obtain ⟨t133, A110, H⟩ := H
     replace H : (some (!t133)) = some r := H
     have A11 := am A110
     clear A110
     obtain rfl := Option.some.inj H
     go_enter Try.func57, Try.ntmps57
     go_wp2_with (first | ((with_reducible refine gate_callee (f := 80) rfl ?_); refine goesL_ (some 5) rfl rfl Try.func80 (by kernel_rfl) rfl #[.string a0, .string (⟨#[45]⟩ : ByteArray)] rfl (by (try simp only [List.map_toArray, List.map_cons, List.map_nil]); first | done | rfl | (simp only [List.length_drop, List.length_take]; rfl)) ?_; (with_reducible refine (strings_TrimPrefix.calls a0 (⟨#[45]⟩ : ByteArray) t131 _ A2.out).mono ?_); rintro e w' ⟨rfl, ⟨nd, rfl⟩⟩; refine ⟨_, rfl, ?_⟩; have p6 : 0 ≤ (0 : Int) := (by omega); have q6 : 0 < t131.size := (by have : (0 : Int) < (t131.size : Int) := of_decide_eq_true (by first | (with_reducible assumption) | assumption); omega); have hx6 : ∀ h : 0 < t131.size, ((t131[0]'h).toNat : Int) = bt t131 0 := bt_at t131 0; clear p6; have qi6 : (0 < (t131.size : Int)) = True := eq_true (of_decide_eq_true (by first | (with_reducible assumption) | assumption)); replace q6 := eq_true q6) | ((with_reducible refine gate_callee (f := 81) rfl ?_); refine goesL_ (some 24) rfl rfl Try.func81 (by kernel_rfl) rfl #[.string t131, .func (.func 82) #[] #[]] rfl (by (try simp only [List.map_toArray, List.map_cons, List.map_nil]); first | done | rfl | (simp only [List.length_drop, List.length_take]; rfl)) ?_; (with_reducible refine (ContainsFunc_May.calls t131  t133 _ A11.out).mono ?_); rintro e w12 ⟨rfl, hb⟩; refine ⟨_, rfl, ?_⟩; have n0_ := am (below_step (by repeat (first | (with_reducible first | exact HB.out | apply lA | apply lN | apply lD) | exact HB.out)) hb); clear HB; have HB := n0_; clear n0_; (try clear hb); (try clear hb2); (try clear hk); (try clear hi)))
     go_ret
     exact ⟨by first | rfl | (simp [errW_none, errW_some] <;> rfl) | (simp [*, errW_none, errW_some] <;> rfl), by repeat (first | (with_reducible first | exact HB.out | apply lA | apply lN | apply lD) | exact HB.out)⟩
   ·rw [if_neg c5] at H
    exact absurd H (by simp)
def tree_may_1.f (a0 : ByteArray) : Option (Bool) := (num_May.f a0).bind fun t134 => (some (!t134))
set_option maxHeartbeats 8000000 in
set_option maxRecDepth 100000 in
theorem tree_may_1.calls (a0 : ByteArray) (r : Bool) (w : World) (h : tree_may_1.f a0 = some r) :
  Calls Try.prog 56 #[.string a0] w fun e w' => e = .returned (.bool r) ∧ Below w.heap.size w w' := by
 have HB := am (Below.refl w.heap.size w)
 have H : ((num_May.f a0).bind fun t134 => (some (!t134))) = some r := h
 clear h
 replace H := Option.bind_eq_some_iff.mp H
 obtain ⟨t134, A20, H⟩ := H
 replace H : (some (!t134)) = some r := H
 have A2 := am A20
 clear A20
 obtain rfl := Option.some.inj H
 go_enter Try.func56, Try.ntmps56
 go_wp2_with (first | ((with_reducible refine gate_callee (f := 57) rfl ?_); refine goesL_ (some 4) rfl rfl Try.func57 (by kernel_rfl) rfl #[.string a0] rfl (by (try simp only [List.map_toArray, List.map_cons, List.map_nil]); first | done | rfl | (simp only [List.length_drop, List.length_take]; rfl)) ?_; (with_reducible refine (num_May.calls a0 t134 _ A2.out).mono ?_); rintro e w3 ⟨rfl, hb⟩; refine ⟨_, rfl, ?_⟩; have n0_ := am (below_step (by repeat (first | (with_reducible first | exact HB.out | apply lA | apply lN | apply lD) | exact HB.out)) hb); clear HB; have HB := n0_; clear n0_; (try clear hb); (try clear hb2); (try clear hk); (try clear hi)))
 go_ret
 exact ⟨by first | rfl | (simp [errW_none, errW_some] <;> rfl) | (simp [*, errW_none, errW_some] <;> rfl), by repeat (first | (with_reducible first | exact HB.out | apply lA | apply lN | apply lD) | exact HB.out)⟩
def slices_IndexFunc_string_string.l0 : Nat → List ByteArray → Int → Int → Option (Int)
 | 0, _, _, _ => none
 | k + 1, x0, x7, x8 => if x8 < x7 then (if 0 ≤ x8 then (if x8 < (x0.length : Int) then ((tree_may_1.f (rdOf ByteArray.empty x0 x8)).bind fun t136 => (if t136 = true then (some x8) else (slices_IndexFunc_string_string.l0 k x0 x7 (wrap64 (x8 + 1))))) else (none)) else (none)) else (some (-1))
def slices_IndexFunc_string_string.f (k : Nat) (l0 : List ByteArray)  : Option (Int) := slices_IndexFunc_string_string.l0 k l0 (l0.length : Int) 0
theorem slices_IndexFunc_string_string.mono_l : ∀ k, (∀ y0 y1 y2, LeO (slices_IndexFunc_string_string.l0 k y0 y1 y2) (slices_IndexFunc_string_string.l0 (k + 1) y0 y1 y2))
 | 0 => fun _ _ _ r h => by simp [slices_IndexFunc_string_string.l0] at h
 | k + 1 => by
  have ih0 := slices_IndexFunc_string_string.mono_l k
  ·intro y0 y1 y2
   unfold slices_IndexFunc_string_string.l0
   repeat' first
   | (with_reducible exact ih0 _ _ _)
   | (with_reducible exact LeO.refl _)
   | (with_reducible exact LeO.none _)
   | (with_reducible refine LeO.ite ?_ ?_)
   | (with_reducible refine LeO.bind ?_ (fun _ => ?_))
   | exact ih0 _ _ _
   | exact LeO.none _
   | refine LeO.ite ?_ ?_
   | refine LeO.bind ?_ (fun _ => ?_)
theorem slices_IndexFunc_string_string.mono : ∀ a0 k, LeO (slices_IndexFunc_string_string.f k a0) (slices_IndexFunc_string_string.f (k + 1) a0) := by
 intro a0 k
 have ih0 := slices_IndexFunc_string_string.mono_l k
 unfold slices_IndexFunc_string_string.f
 repeat' first
   | (with_reducible exact ih0 _ _ _)
   | (with_reducible exact LeO.refl _)
   | (with_reducible exact LeO.none _)
   | (with_reducible refine LeO.ite ?_ ?_)
   | (with_reducible refine LeO.bind ?_ (fun _ => ?_))
   | exact ih0 _ _ _
   | exact LeO.none _
   | refine LeO.ite ?_ ?_
   | refine LeO.bind ?_ (fun _ => ?_)
set_option maxHeartbeats 8000000 in
set_option maxRecDepth 100000 in
theorem slices_IndexFunc_string_string.calls (k : Nat) (A0 : Option Addr) (c0 : Nat) (l0 : List ByteArray)  (r : Int) (w : World) (hr0 : Kd.C Kd.string w A0 l0.length l0) (hc0 : l0.length ≤ c0) (h : slices_IndexFunc_string_string.f k l0 = some r) :
  Calls Try.prog 79 #[.slice A0 l0.length c0, .func (.func 56) #[] #[]] w fun e w' => e = .returned (.int .i64 r) ∧ Below w.heap.size w w' := by
 have HR0 := am hr0
 have HC0 := am hc0
 clear hr0 hc0
 have HB := am (Below.refl w.heap.size w)
 have H : (slices_IndexFunc_string_string.l0 k l0 (l0.length : Int) 0) = some r := h
 clear h
 have H' := am H
 clear H
 go_enter Try.func79, Try.ntmps79
 go_wp2
 go_loopg [8] k (fun kq v8 w' => ∃ (x8_1 : Int), v8 = .int .i64 x8_1 ∧ Aside0 (slices_IndexFunc_string_string.l0 kq l0 (l0.length : Int) x8_1 = some r) ∧ Aside0 (kq ≤ k) ∧ Aside0 (Below w.heap.size w w'))
 case atStart => exact ⟨(0), (by first | rfl | (simp; done) | (simp [*]; done)), H', ⟨Nat.le_refl _⟩, ⟨by repeat (first | (with_reducible first | exact HB.out | apply lA | apply lN | apply lD) | exact HB.out)⟩⟩
 case round =>
  clear H'
  try clear p2
  obtain ⟨x8_1, rfl, HA, HK1, HB⟩ := hrel
  cases gk with
  | zero => exact absurd HA.out (by simp [slices_IndexFunc_string_string.l0])
  | succ k1 =>
   have H := HA.out
   clear HA
   simp only [slices_IndexFunc_string_string.l0] at H
   by_cases c3 : x8_1 < (l0.length : Int)
   ·rw [if_pos c3] at H
    have c3b0 : decide (x8_1 < (l0.length : Int)) = true := decide_eq_true c3
    clear c3
    by_cases c4 : 0 ≤ x8_1
    ·rw [if_pos c4] at H
     have c4b0 : decide (0 ≤ x8_1) = true := decide_eq_true c4
     clear c4
     by_cases c5 : x8_1 < (l0.length : Int)
     ·rw [if_pos c5] at H
      have c5b0 : decide (x8_1 < (l0.length : Int)) = true := decide_eq_true c5
      clear c5
      replace H := Option.bind_eq_some_iff.mp H
      obtain ⟨t136, A60, H⟩ := H
      replace H : (if t136 = true then (some x8_1) else (slices_IndexFunc_string_string.l0 k1 l0 (l0.length : Int) (wrap64 (x8_1 + 1)))) = some r := H
      have A6 := am A60
      clear A60
      by_cases c7 : t136 = true
      ·subst c7
       have H1 : (some x8_1) = some r := by rw [if_pos rfl] at H; exact H
       clear H
       have H := H1
       clear H1
       obtain rfl := Option.some.inj H
       have p135 : 0 ≤ (x8_1 : Int) := of_decide_eq_true (by first | (with_reducible assumption) | assumption)
       have q135 : x8_1 < (l0.length : Int) := of_decide_eq_true (by first | (with_reducible assumption) | assumption)
       obtain ⟨ad135, e135, hx135_0⟩ := Kd.at_string HR0.out x8_1 p135 q135
       cases e135
       replace hx135_0 := (HB.out.cell (World.block_lt_of_cell? w _ hx135_0)).trans hx135_0
       replace p135 := eq_true p135
       replace q135 := eq_true q135
       go_wp2_with (first | ((with_reducible refine gate_calleeT rfl ?_); refine goesLT_ (some 16) rfl rfl Try.func56 (by kernel_rfl) rfl #[.string (rdOf ByteArray.empty l0 x8_1)] rfl (by (try simp only [List.map_toArray, List.map_cons, List.map_nil]); first | done | rfl | (simp only [List.length_drop, List.length_take]; rfl)) ?_; (with_reducible refine (tree_may_1.calls (rdOf ByteArray.empty l0 x8_1) true _ A6.out).mono ?_); rintro e w8 ⟨rfl, hb⟩; refine ⟨_, rfl, ?_⟩; have n0_ := am (below_step (by repeat (first | (with_reducible first | exact HB.out | apply lA | apply lN | apply lD) | exact HB.out)) hb); clear HB; have HB := n0_; clear n0_; (try clear hb); (try clear hb2); (try clear hk); (try clear hi)))
       go_ret
       exact ⟨by first | rfl | (simp [errW_none, errW_some] <;> rfl) | (simp [*, errW_none, errW_some] <;> rfl), by repeat (first | (with_reducible first | exact HB.out | apply lA | apply lN | apply lD) | exact HB.out)⟩
      ·replace c7 := Bool.eq_false_iff.mpr c7
       subst c7
       have H1 : (slices_IndexFunc_string_string.l0 k1 l0 (l0.length : Int) (wrap64 (x8_1 + 1))) = some r := by rw [if_neg (show ¬ (false = true) by decide)] at H; exact H
       clear H
       have H := H1
       clear H1
       have H' := am H
       clear H
       have p135 : 0 ≤ (x8_1 : Int) := of_decide_eq_true (by first | (with_reducible assumption) | assumption)
       have q135 : x8_1 < (l0.length : Int) := of_decide_eq_true (by first | (with_reducible assumption) | assumption)
       obtain ⟨ad135, e135, hx135_0⟩ := Kd.at_string HR0.out x8_1 p135 q135
       cases e135
       replace hx135_0 := (HB.out.cell (World.block_lt_of_cell? w _ hx135_0)).trans hx135_0
       replace p135 := eq_true p135
       replace q135 := eq_true q135
       go_wp2_with (first | ((with_reducible refine gate_calleeT rfl ?_); refine goesLT_ (some 16) rfl rfl Try.func56 (by kernel_rfl) rfl #[.string (rdOf ByteArray.empty l0 x8_1)] rfl (by (try simp only [List.map_toArray, List.map_cons, List.map_nil]); first | done | rfl | (simp only [List.length_drop, List.length_take]; rfl)) ?_; (with_reducible refine (tree_may_1.calls (rdOf ByteArray.empty l0 x8_1) false _ A6.out).mono ?_); rintro e w9 ⟨rfl, hb⟩; refine ⟨_, rfl, ?_⟩; have n0_ := am (below_step (by repeat (first | (with_reducible first | exact HB.out | apply lA | apply lN | apply lD) | exact HB.out)) hb); clear HB; have HB := n0_; clear n0_; (try clear hb); (try clear hb2); (try clear hk); (try clear hi)))
       go_roundg k1
       case measure => have := HK1.out; omega
       case rel => exact ⟨(wrap64 (x8_1 + 1)), (by first | rfl | (simp; done) | (simp [*]; done)), H', ⟨by have := HK1.out; omega⟩, ⟨by repeat (first | (with_reducible first | exact HB.out | apply lA | apply lN | apply lD) | exact HB.out)⟩⟩
     ·rw [if_neg c5] at H
      exact absurd H (by simp)
    ·rw [if_neg c4] at H
     exact absurd H (by simp)
   ·rw [if_neg c3] at H
    have c3b0 : decide (x8_1 < (l0.length : Int)) = false := decide_eq_false c3
    clear c3
    obtain rfl := Option.some.inj H
    go_wp2
    go_ret
    exact ⟨by first | rfl | (simp [errW_none, errW_some] <;> rfl) | (simp [*, errW_none, errW_some] <;> rfl), by repeat (first | (with_reducible first | exact HB.out | apply lA | apply lN | apply lD) | exact HB.out)⟩
def slices_ContainsFunc_string_string.f (k : Nat) (l0 : List ByteArray)  : Option (Bool) := (slices_IndexFunc_string_string.f k l0).bind fun t137 => (some (decide (t137 ≥ 0)))
theorem slices_ContainsFunc_string_string.mono : ∀ a0 k, LeO (slices_ContainsFunc_string_string.f k a0) (slices_ContainsFunc_string_string.f (k + 1) a0) := by
 intro a0 k
 unfold slices_ContainsFunc_string_string.f
 repeat' first
   | (with_reducible exact slices_IndexFunc_string_string.mono _ _)
   | (with_reducible exact LeO.refl _)
   | (with_reducible exact LeO.none _)
   | (with_reducible refine LeO.ite ?_ ?_)
   | (with_reducible refine LeO.bind ?_ (fun _ => ?_))
   | exact slices_IndexFunc_string_string.mono _ _
   | exact LeO.none _
   | refine LeO.ite ?_ ?_
   | refine LeO.bind ?_ (fun _ => ?_)
set_option maxHeartbeats 8000000 in
set_option maxRecDepth 100000 in
theorem slices_ContainsFunc_string_string.calls (k : Nat) (A0 : Option Addr) (c0 : Nat) (l0 : List ByteArray)  (r : Bool) (w : World) (hr0 : Kd.C Kd.string w A0 l0.length l0) (hc0 : l0.length ≤ c0) (h : slices_ContainsFunc_string_string.f k l0 = some r) :
  Calls Try.prog 55 #[.slice A0 l0.length c0, .func (.func 56) #[] #[]] w fun e w' => e = .returned (.bool r) ∧ Below w.heap.size w w' := by
 have HR0 := am hr0
 have HC0 := am hc0
 clear hr0 hc0
 have HB := am (Below.refl w.heap.size w)
 have H : ((slices_IndexFunc_string_string.f k l0).bind fun t137 => (some (decide (t137 ≥ 0)))) = some r := h
 clear h
 replace H := Option.bind_eq_some_iff.mp H
 obtain ⟨t137, A30, H⟩ := H
 replace H : (some (decide (t137 ≥ 0))) = some r := H
 have A3 := am A30
 clear A30
 obtain rfl := Option.some.inj H
 go_enter Try.func55, Try.ntmps55
 go_wp2_with (first | ((with_reducible refine gate_callee (f := 79) rfl ?_); refine goesL_ (some 7) rfl rfl Try.func79 (by kernel_rfl) rfl #[.slice A0 l0.length c0, .func (.func 56) #[] #[]] rfl (by (try simp only [List.map_toArray, List.map_cons, List.map_nil]); first | done | rfl | (simp only [List.length_drop, List.length_take]; rfl)) ?_; (with_reducible refine (slices_IndexFunc_string_string.calls k _ _ l0  t137 _ ?side1 ?side2 A3.out).mono ?_); (case side1 => repeat (first | exact HR0.out | (with_reducible refine Kd.C_alloc ?_ _) | (with_reducible refine Kd.C_drewN ?_ _) | (with_reducible refine Kd.C_drew ?_))); (case side2 => exact HC0.out); rintro e w4 ⟨rfl, hb⟩; refine ⟨_, rfl, ?_⟩; have n0_ := am (below_step (by repeat (first | (with_reducible first | exact HB.out | apply lA | apply lN | apply lD) | exact HB.out)) hb); clear HB; have HB := n0_; clear n0_; (try clear hb); (try clear hb2); (try clear hk); (try clear hi)))
 go_ret
 exact ⟨by first | rfl | (simp [errW_none, errW_some] <;> rfl) | (simp [*, errW_none, errW_some] <;> rfl), by repeat (first | (with_reducible first | exact HB.out | apply lA | apply lN | apply lD) | exact HB.out)⟩
def lex_small.f (a0 : Int) : Option (Bool) := if a0 ≥ 97 then (some (decide (a0 ≤ 122))) else (some false)
set_option maxHeartbeats 8000000 in
set_option maxRecDepth 100000 in
theorem lex_small.calls (a0 : Int) (r : Bool) (w : World) (h : lex_small.f a0 = some r) :
  Calls Try.prog 84 #[.int .u8 a0] w fun e w' => e = .returned (.bool r) ∧ Drawn0 w w' := by
 have H : (if a0 ≥ 97 then (some (decide (a0 ≤ 122))) else (some false)) = some r := h
 clear h
 by_cases c2 : a0 ≥ 97
 ·rw [if_pos c2] at H
  have c2b0 : decide (97 ≤ a0) = true := decide_eq_true c2
  clear c2
  obtain rfl := Option.some.inj H
  go_enter Try.func84, Try.ntmps84
  go_wp2
  go_ret
  exact ⟨by first | rfl | (simp; done) | (simp [*]; done), by repeat (first | exact Drawn0.refl _ | apply Drawn0.step)⟩
 ·rw [if_neg c2] at H
  have c2b0 : decide (97 ≤ a0) = false := decide_eq_false c2
  clear c2
  obtain rfl := Option.some.inj H
  go_enter Try.func84, Try.ntmps84
  go_wp2
  go_ret
  exact ⟨by first | rfl | (simp; done) | (simp [*]; done), by repeat (first | exact Drawn0.refl _ | apply Drawn0.step)⟩
def lex_great.f (a0 : Int) : Option (Bool) := if a0 ≥ 65 then (some (decide (a0 ≤ 90))) else (some false)
set_option maxHeartbeats 8000000 in
set_option maxRecDepth 100000 in
theorem lex_great.calls (a0 : Int) (r : Bool) (w : World) (h : lex_great.f a0 = some r) :
  Calls Try.prog 88 #[.int .u8 a0] w fun e w' => e = .returned (.bool r) ∧ Drawn0 w w' := by
 have H : (if a0 ≥ 65 then (some (decide (a0 ≤ 90))) else (some false)) = some r := h
 clear h
 by_cases c2 : a0 ≥ 65
 ·rw [if_pos c2] at H
  have c2b0 : decide (65 ≤ a0) = true := decide_eq_true c2
  clear c2
  obtain rfl := Option.some.inj H
  go_enter Try.func88, Try.ntmps88
  go_wp2
  go_ret
  exact ⟨by first | rfl | (simp; done) | (simp [*]; done), by repeat (first | exact Drawn0.refl _ | apply Drawn0.step)⟩
 ·rw [if_neg c2] at H
  have c2b0 : decide (65 ≤ a0) = false := decide_eq_false c2
  clear c2
  obtain rfl := Option.some.inj H
  go_enter Try.func88, Try.ntmps88
  go_wp2
  go_ret
  exact ⟨by first | rfl | (simp; done) | (simp [*]; done), by repeat (first | exact Drawn0.refl _ | apply Drawn0.step)⟩
def lex_Number.j0 : Nat → ByteArray → ByteArray → Option (ByteArray × Bool)
 | 0, _, _ => none
 | k + 1, x4, x5 => (run_figure.f x4).bind fun t139 => (if t139 = (x4.size : Int) then ((num_May.f x5).bind fun t140 => (if t140 = true then (some (x5, true)) else (some ((⟨#[]⟩ : ByteArray), false)))) else (some ((⟨#[]⟩ : ByteArray), false)))
def lex_Number.f (k : Nat) (a0 : ByteArray) : Option (ByteArray × Bool) := (strings_TrimPrefix.f a0 (⟨#[95]⟩ : ByteArray)).bind fun t138 => (if t138.toList = a0.toList then (lex_Number.j0 k t138 t138) else (if 1 + t138.size ≤ 9223372036854775807 then (lex_Number.j0 k t138 ((⟨#[45]⟩ : ByteArray) ++ t138)) else (none)))
theorem lex_Number.mono_l : ∀ k, (∀ y0 y1, LeO (lex_Number.j0 k y0 y1) (lex_Number.j0 (k + 1) y0 y1))
 | 0 => fun _ _ r h => by simp [lex_Number.j0] at h
 | k + 1 => by
  have ih0 := lex_Number.mono_l k
  ·intro y0 y1
   unfold lex_Number.j0
   repeat' first
   | (with_reducible exact ih0 _ _)
   | (with_reducible exact LeO.refl _)
   | (with_reducible exact LeO.none _)
   | (with_reducible refine LeO.ite ?_ ?_)
   | (with_reducible refine LeO.bind ?_ (fun _ => ?_))
   | exact ih0 _ _
   | exact LeO.none _
   | refine LeO.ite ?_ ?_
   | refine LeO.bind ?_ (fun _ => ?_)
theorem lex_Number.mono : ∀ a0 k, LeO (lex_Number.f k a0) (lex_Number.f (k + 1) a0) := by
 intro a0 k
 have ih0 := lex_Number.mono_l k
 unfold lex_Number.f
 repeat' first
   | (with_reducible exact ih0 _ _)
   | (with_reducible exact LeO.refl _)
   | (with_reducible exact LeO.none _)
   | (with_reducible refine LeO.ite ?_ ?_)
   | (with_reducible refine LeO.bind ?_ (fun _ => ?_))
   | exact ih0 _ _
   | exact LeO.none _
   | refine LeO.ite ?_ ?_
   | refine LeO.bind ?_ (fun _ => ?_)
set_option maxHeartbeats 8000000 in
set_option maxRecDepth 100000 in
theorem lex_Number.calls (k : Nat) (a0 : ByteArray) (r1 : ByteArray) (r2 : Bool) (w : World) (h : lex_Number.f k a0 = some (r1, r2)) :
  Calls Try.prog 91 #[.string a0] w fun e w' => e = .returned (.tuple #[.string r1, .bool r2]) ∧ Below w.heap.size w w' := by
 have HB := am (Below.refl w.heap.size w)
 have H : ((strings_TrimPrefix.f a0 (⟨#[95]⟩ : ByteArray)).bind fun t138 => (if t138.toList = a0.toList then (lex_Number.j0 k t138 t138) else (if 1 + t138.size ≤ 9223372036854775807 then (lex_Number.j0 k t138 ((⟨#[45]⟩ : ByteArray) ++ t138)) else (none)))) = some (r1, r2) := h
 clear h
 replace H := Option.bind_eq_some_iff.mp H
 obtain ⟨t138, A20, H⟩ := H
 replace H : (if t138.toList = a0.toList then (lex_Number.j0 k t138 t138) else (if 1 + t138.size ≤ 9223372036854775807 then (lex_Number.j0 k t138 ((⟨#[45]⟩ : ByteArray) ++ t138)) else (none))) = some (r1, r2) := H
 have A2 := am A20
 clear A20
 have HC3 := am H
 clear H
 go_enter Try.func91, Try.ntmps91
 go_upto_if 11 with (first | ((with_reducible refine gate_callee (f := 80) rfl ?_); refine goesL_ (some 7) rfl rfl Try.func80 (by kernel_rfl) rfl #[.string a0, .string (⟨#[95]⟩ : ByteArray)] rfl (by (try simp only [List.map_toArray, List.map_cons, List.map_nil]); first | done | rfl | (simp only [List.length_drop, List.length_take]; rfl)) ?_; (with_reducible refine (strings_TrimPrefix.calls a0 (⟨#[95]⟩ : ByteArray) t138 _ A2.out).mono ?_); rintro e w' ⟨rfl, ⟨nd, rfl⟩⟩; refine ⟨_, rfl, ?_⟩))
 (try simp only [Act.put, zT, z0, zS])
 go_cut [5] (fun v5 wc => ∃ (kq : Nat) (x5_2 : ByteArray), v5 = .string x5_2 ∧ Aside0 (lex_Number.j0 kq t138 x5_2 = some (r1, r2)) ∧ Aside0 (kq ≤ k) ∧ Aside0 (Below w.heap.size w wc))
 case first =>
  have H := HC3.out
  clear HC3
  by_cases c4 : t138.toList = a0.toList
  ·rw [if_pos c4] at H
   have c4b0 : (t138.toList == a0.toList) = true := beq_iff_eq.mpr c4
   have c4b1 : (t138.toList != a0.toList) = false := bne_eq_false_iff_eq.mpr c4
   clear c4
   (first | rw [c4b0] | (simp only [i64_w, i32_w]; rw [c4b0]) | skip)
   have H' := am H
   clear H
   go_wp2
   go_meet
   case rel => exact ⟨_, (t138), (by first | rfl | (simp; done) | (simp [*]; done)), H', ⟨by first | omega | exact Nat.le_refl _⟩, ⟨by repeat (first | (with_reducible first | exact HB.out | apply lA | apply lN | apply lD) | exact HB.out)⟩⟩
  ·rw [if_neg c4] at H
   have c4b0 : (t138.toList == a0.toList) = false := beq_eq_false_iff_ne.mpr c4
   have c4b1 : (t138.toList != a0.toList) = true := bne_iff_ne.mpr c4
   (first | rw [c4b0] | (simp only [i64_w, i32_w]; rw [c4b0]) | skip)
   by_cases c5 : 1 + t138.size ≤ 9223372036854775807
   ·rw [if_pos c5] at H
    have c5b0 := eq_true c5
    have c5b1 : decide (1 + t138.size ≤ 9223372036854775807) = true := decide_eq_true c5
    try have c5b2 : (9223372036854775807 < 1 + t138.size) = False := eq_false (Nat.not_lt.2 c5)
    have H' := am H
    clear H
    go_wp2
    go_meet
    case rel => exact ⟨_, ((⟨#[45]⟩ : ByteArray) ++ t138), (by first | rfl | (simp; done) | (simp [*]; done)), H', ⟨by first | omega | exact Nat.le_refl _⟩, ⟨by repeat (first | (with_reducible first | exact HB.out | apply lA | apply lN | apply lD) | exact HB.out)⟩⟩
   ·rw [if_neg c5] at H
    exact absurd H (by simp)
 case rest =>
  clear HC3
  try clear p2
  try clear c4
  try clear c4b0
  try clear c4b1
  try clear c5
  try clear c5b0
  try clear c5b1
  try clear c5b2
  obtain ⟨kq, x5_2, rfl, HA, HJ2, HB⟩ := hcut
  cases kq with
  | zero => exact absurd HA.out (by simp [lex_Number.j0])
  | succ kj2 =>
   have H := HA.out
   clear HA
   simp only [lex_Number.j0] at H
   replace H := Option.bind_eq_some_iff.mp H
   obtain ⟨t139, A60, H⟩ := H
   replace H : (if t139 = (t138.size : Int) then ((num_May.f x5_2).bind fun t140 => (if t140 = true then (some (x5_2, true)) else (some ((⟨#[]⟩ : ByteArray), false)))) else (some ((⟨#[]⟩ : ByteArray), false))) = some (r1, r2) := H
   have A6 := am A60
   clear A60
   by_cases c7 : t139 = (t138.size : Int)
   ·rw [if_pos c7] at H
    have c7b0 : (t139 == (t138.size : Int)) = true := beq_iff_eq.mpr c7
    have c7b1 : (t139 != (t138.size : Int)) = false := bne_eq_false_iff_eq.mpr c7
    clear c7
    replace H := Option.bind_eq_some_iff.mp H
    obtain ⟨t140, A80, H⟩ := H
    replace H : (if t140 = true then (some (x5_2, true)) else (some ((⟨#[]⟩ : ByteArray), false))) = some (r1, r2) := H
    have A8 := am A80
    clear A80
    by_cases c9 : t140 = true
    ·subst c9
     have H1 : (some (x5_2, true)) = some (r1, r2) := by rw [if_pos rfl] at H; exact H
     clear H
     have H := H1
     clear H1
     simp only [Option.some.injEq, Prod.mk.injEq] at H
     obtain ⟨rfl, rfl⟩ := H
     go_wp2_with (first | ((with_reducible refine gate_callee (f := 85) rfl ?_); refine goesL_ (some 15) rfl rfl Try.func85 (by kernel_rfl) rfl #[.string t138, .func (.func 87) #[] #[]] rfl (by (try simp only [List.map_toArray, List.map_cons, List.map_nil]); first | done | rfl | (simp only [List.length_drop, List.length_take]; rfl)) ?_; (with_reducible refine (run_figure.calls t138  t139 _ A6.out).mono ?_); rintro e w' ⟨rfl, ⟨nd, rfl⟩⟩; refine ⟨_, rfl, ?_⟩) | (go_at_call 57; (with_reducible refine (num_May.calls x5_2 true _ A8.out).mono ?_); rintro e w10 ⟨rfl, hb⟩; have n0_ := am (below_step (by repeat (first | (with_reducible first | exact HB.out | apply lA | apply lN | apply lD) | exact HB.out)) hb); clear HB; have HB := n0_; clear n0_; (try clear hb); (try clear hb2); (try clear hk); (try clear hi)))
     go_ret2
     exact ⟨by first | rfl | (simp [errW_none, errW_some] <;> rfl) | (simp [*, errW_none, errW_some] <;> rfl), by repeat (first | (with_reducible first | exact HB.out | apply lA | apply lN | apply lD) | exact HB.out)⟩
    ·replace c9 := Bool.eq_false_iff.mpr c9
     subst c9
     have H1 : (some ((⟨#[]⟩ : ByteArray), false)) = some (r1, r2) := by rw [if_neg (show ¬ (false = true) by decide)] at H; exact H
     clear H
     have H := H1
     clear H1
     simp only [Option.some.injEq, Prod.mk.injEq] at H
     obtain ⟨rfl, rfl⟩ := H
     go_wp2_with (first | ((with_reducible refine gate_callee (f := 85) rfl ?_); refine goesL_ (some 15) rfl rfl Try.func85 (by kernel_rfl) rfl #[.string t138, .func (.func 87) #[] #[]] rfl (by (try simp only [List.map_toArray, List.map_cons, List.map_nil]); first | done | rfl | (simp only [List.length_drop, List.length_take]; rfl)) ?_; (with_reducible refine (run_figure.calls t138  t139 _ A6.out).mono ?_); rintro e w' ⟨rfl, ⟨nd, rfl⟩⟩; refine ⟨_, rfl, ?_⟩) | (go_at_call 57; (with_reducible refine (num_May.calls x5_2 false _ A8.out).mono ?_); rintro e w11 ⟨rfl, hb⟩; have n0_ := am (below_step (by repeat (first | (with_reducible first | exact HB.out | apply lA | apply lN | apply lD) | exact HB.out)) hb); clear HB; have HB := n0_; clear n0_; (try clear hb); (try clear hb2); (try clear hk); (try clear hi)))
     go_ret2
     exact ⟨by first | rfl | (simp [errW_none, errW_some] <;> rfl) | (simp [*, errW_none, errW_some] <;> rfl), by repeat (first | (with_reducible first | exact HB.out | apply lA | apply lN | apply lD) | exact HB.out)⟩
   ·rw [if_neg c7] at H
    have c7b0 : (t139 == (t138.size : Int)) = false := beq_eq_false_iff_ne.mpr c7
    have c7b1 : (t139 != (t138.size : Int)) = true := bne_iff_ne.mpr c7
    simp only [Option.some.injEq, Prod.mk.injEq] at H
    obtain ⟨rfl, rfl⟩ := H
    go_wp2_with (first | ((with_reducible refine gate_callee (f := 85) rfl ?_); refine goesL_ (some 15) rfl rfl Try.func85 (by kernel_rfl) rfl #[.string t138, .func (.func 87) #[] #[]] rfl (by (try simp only [List.map_toArray, List.map_cons, List.map_nil]); first | done | rfl | (simp only [List.length_drop, List.length_take]; rfl)) ?_; (with_reducible refine (run_figure.calls t138  t139 _ A6.out).mono ?_); rintro e w' ⟨rfl, ⟨nd, rfl⟩⟩; refine ⟨_, rfl, ?_⟩))
    go_ret2
    exact ⟨by first | rfl | (simp [errW_none, errW_some] <;> rfl) | (simp [*, errW_none, errW_some] <;> rfl), by repeat (first | (with_reducible first | exact HB.out | apply lA | apply lN | apply lD) | exact HB.out)⟩
end Go.Proofs.Ytdelccahgchadaa.P
end
