/- What the law PrintOnes rests on, part 2. -/
import Derived.Test.YtdelccahgchadaaKPrintOnes0
import Derived.Shelf.Strings.Builder1
import Derived.Shelf.Strings.Builder2
import Derived.Shelf.Strings.OnBuilder
import Derived.Shelf.Small.Strs
import Derived.Shelf.Strings.Search1
import Derived.Shelf.Strings.Search2
import Derived.Shelf.Strings.Search3
import Derived.Shelf.LaysM
import Derived.Shelf.Strings.Shaped
import Derived.Shelf.GgClosure.StringsIndexFunc
import Derived.Ground.GgwProg
import Derived.Shelf.GgClosure.StringsIndexFuncTop
import Derived.Shelf.GgClosure.StringsRunes
import Derived.Shelf.Strings.Prefix
import Derived.Shelf.Strings.FuncGrows
import Derived.Shelf.Abstract
import Derived.WalkSpells
import Derived.WalkLawsBesides
import Derived.Laws.RangeAny
import Derived.Lib.IndexAny
import Derived.StillTailTactics
import Derived.BigRegion
import Derived.Deep.RegionWith
set_option linter.unusedVariables false
set_option linter.unusedSimpArgs false
section
namespace Go.Proofs
open Go.Shelf
def Try.lays169_ren : Go.Shelf.Ren := ⟨fun | 169 => 118 | n => n, fun | 70 => 116 | 9 => 9 | 0 => 0 | 72 => 119 | 37 => 117 | 127 => 126 | 3 => 3 | 5 => 5 | n => n, fun | n => n⟩
theorem Try.lays169 : Go.Proofs.Lays.n169 Try.prog Try.lays169_ren := {
  mixed := by kernel_rfl
  f169 := Try.func118.trans (congrArg some (by kernel_rfl))
  t0 := Try.underlying0
  a0 := Try.isAgg0
  z0 := Try.sizeOf0
  v0 := Try.zeroValue0
  t3 := Try.underlying3
  a3 := Try.isAgg3
  z3 := Try.sizeOf3
  v3 := Try.zeroValue3
  t9 := Try.underlying9
  a9 := Try.isAgg9
  z9 := Try.sizeOf9
  v9 := Try.zeroValue9
  t37 := Try.underlying117
  a37 := Try.isAgg117
  z37 := Try.sizeOf117
  v37 := Try.zeroValue117
  t70 := Try.underlying116
  a70 := Try.isAgg116
  z70 := Try.sizeOf116
  v70 := Try.zeroValue116
  t72 := Try.underlying119
  a72 := Try.isAgg119
  z72 := Try.sizeOf119
  v72 := Try.zeroValue119
  t127 := Try.underlying126
  a127 := Try.isAgg126
  z127 := Try.sizeOf126
  v127 := Try.zeroValue126 }
theorem Try.Builder_Extra_169 : Builder.Extra Try.prog Try.lays169_ren := {
  sizeBuilder := by kernel_rfl
  liesBuilder := by kernel_rfl
  t5 := Try.underlying5
  a5 := Try.isAgg5
  z5 := Try.sizeOf5
  v5 := Try.zeroValue5
  infoByte := by kernel_rfl
  cellsByte := by kernel_rfl
  sizeByte := by kernel_rfl
  neB5 := by decide }
open Go.RowKit in
theorem Try.Builder_String (B b : Nat) (l : List UInt8) (w : World) (h : Lib.IsBuilder 119 5 B b (Lib.byteCells l) w) (h0 : l ≠ []) :
    Calls Try.prog 118 #[.pointer (some ⟨b, 0, none⟩)] w fun e w' => e = .returned (.string ⟨l.toArray⟩) ∧ Below B w w' := Any.Builder_String Try.lays169 Try.Builder_Extra_169 B b l w h h0
open Go.RowKit in
theorem Try.Builder_String_empty (B b : Nat) (w : World) (h : Lib.IsBuilder 119 5 B b [] w) (hBw : B ≤ w.heap.size) :
    Calls Try.prog 118 #[.pointer (some ⟨b, 0, none⟩)] w fun e w' => e = .returned (.string ⟨#[]⟩) ∧ Below B w w' := Any.Builder_String_empty Try.lays169 Try.Builder_Extra_169 B b w h hBw
open Go.RowKit in
theorem Try.Builder_String_any (B b : Nat) (l : List UInt8) (w : World) (h : Lib.IsBuilder 119 5 B b (Lib.byteCells l) w) (hBw : B ≤ w.heap.size) :
    Calls Try.prog 118 #[.pointer (some ⟨b, 0, none⟩)] w fun e w' => e = .returned (.string ⟨l.toArray⟩) ∧ Below B w w' := Any.Builder_String_any Try.lays169 Try.Builder_Extra_169 B b l w h hBw
def Try.lays241_ren : Go.Shelf.Ren := ⟨fun | 241 => 126 | 277 => 132 | n => n, fun | 70 => 116 | 3 => 3 | 0 => 0 | 72 => 119 | 37 => 117 | 5 => 5 | n => n, fun | n => n⟩
theorem Try.lays241 : Go.Proofs.Lays.n241 Try.prog Try.lays241_ren := {
  mixed := by kernel_rfl
  f241 := Try.func126.trans (congrArg some (by kernel_rfl))
  f277 := Try.func132.trans (congrArg some (by kernel_rfl))
  t0 := Try.underlying0
  a0 := Try.isAgg0
  z0 := Try.sizeOf0
  v0 := Try.zeroValue0
  t3 := Try.underlying3
  a3 := Try.isAgg3
  z3 := Try.sizeOf3
  v3 := Try.zeroValue3
  t37 := Try.underlying117
  a37 := Try.isAgg117
  z37 := Try.sizeOf117
  v37 := Try.zeroValue117
  t70 := Try.underlying116
  a70 := Try.isAgg116
  z70 := Try.sizeOf116
  v70 := Try.zeroValue116
  t72 := Try.underlying119
  a72 := Try.isAgg119
  z72 := Try.sizeOf119
  v72 := Try.zeroValue119 }
theorem Try.Builder_Extra_241 : Builder.Extra Try.prog Try.lays241_ren := {
  sizeBuilder := by kernel_rfl
  liesBuilder := by kernel_rfl
  t5 := Try.underlying5
  a5 := Try.isAgg5
  z5 := Try.sizeOf5
  v5 := Try.zeroValue5
  infoByte := by kernel_rfl
  cellsByte := by kernel_rfl
  sizeByte := by kernel_rfl
  neB5 := by decide }
open Go.RowKit in
theorem Try.Builder_grow_fresh (B b n : Nat) (w : World) (hB : B ≤ b) (hbk : w.heap[b]? = some (.cells #[.pointer (some ⟨b, 0, none⟩), .slice none 0 0] 119 (0, 0))) (hBw : B ≤ w.heap.size) (hn : n ≤ 281474976710656) :
    Calls Try.prog 126 #[.pointer (some ⟨b, 0, none⟩), .int .i64 n] w fun e w' => e = .returned (.tuple #[]) ∧ (Lib.BuilderAt 119 5 B b (.pointer (some ⟨b, 0, none⟩)) [] w' ∧ Below B w w') := Any.Builder_grow_fresh Try.lays241 Try.Builder_Extra_241 B b n w hB hbk hBw hn
def Try.lays165_ren : Go.Shelf.Ren := ⟨fun | 165 => 116 | 240 => 125 | 241 => 126 | 276 => 131 | 277 => 132 | n => n, fun | 70 => 116 | 3 => 3 | 0 => 0 | 4 => 4 | 9 => 9 | 20 => 20 | 72 => 119 | 37 => 117 | 164 => 129 | 5 => 5 | n => n, fun | n => n⟩
theorem Try.lays165 : Go.Proofs.Lays.n165 Try.prog Try.lays165_ren := {
  mixed := by kernel_rfl
  f165 := Try.func116.trans (congrArg some (by kernel_rfl))
  f240 := Try.func125.trans (congrArg some (by kernel_rfl))
  f241 := Try.func126.trans (congrArg some (by kernel_rfl))
  f276 := Try.func131.trans (congrArg some (by kernel_rfl))
  f277 := Try.func132.trans (congrArg some (by kernel_rfl))
  t0 := Try.underlying0
  a0 := Try.isAgg0
  z0 := Try.sizeOf0
  v0 := Try.zeroValue0
  t3 := Try.underlying3
  a3 := Try.isAgg3
  z3 := Try.sizeOf3
  v3 := Try.zeroValue3
  t4 := Try.underlying4
  a4 := Try.isAgg4
  z4 := Try.sizeOf4
  v4 := Try.zeroValue4
  t9 := Try.underlying9
  a9 := Try.isAgg9
  z9 := Try.sizeOf9
  v9 := Try.zeroValue9
  t20 := Try.underlying20
  a20 := Try.isAgg20
  z20 := Try.sizeOf20
  v20 := Try.zeroValue20
  t37 := Try.underlying117
  a37 := Try.isAgg117
  z37 := Try.sizeOf117
  v37 := Try.zeroValue117
  t70 := Try.underlying116
  a70 := Try.isAgg116
  z70 := Try.sizeOf116
  v70 := Try.zeroValue116
  t72 := Try.underlying119
  a72 := Try.isAgg119
  z72 := Try.sizeOf119
  v72 := Try.zeroValue119
  t164 := Try.underlying129
  a164 := Try.isAgg129
  z164 := Try.sizeOf129
  v164 := Try.zeroValue129 }
theorem Try.Builder_Extra_165 : Builder.Extra Try.prog Try.lays165_ren := {
  sizeBuilder := by kernel_rfl
  liesBuilder := by kernel_rfl
  t5 := Try.underlying5
  a5 := Try.isAgg5
  z5 := Try.sizeOf5
  v5 := Try.zeroValue5
  infoByte := by kernel_rfl
  cellsByte := by kernel_rfl
  sizeByte := by kernel_rfl
  neB5 := by decide }
open Go.RowKit in
theorem Try.Builder_Grow_fresh (B b n : Nat) (w : World) (hB : B ≤ b) (hbk : w.heap[b]? = some (.cells #[.pointer none, .slice none 0 0] 119 (0, 0))) (hBw : B ≤ w.heap.size) (hn : n ≤ 281474976710656) :
    Calls Try.prog 116 #[.pointer (some ⟨b, 0, none⟩), .int .i64 n] w fun e w' => e = .returned (.tuple #[]) ∧ (Lib.BuilderAt 119 5 B b (.pointer (some ⟨b, 0, none⟩)) [] w' ∧ Below B w w') := Any.Builder_Grow_fresh Try.lays165 Try.Builder_Extra_165 B b n w hB hbk hBw hn
def Try.lays156_ren : Go.Shelf.Ren := ⟨fun | 156 => 103 | 165 => 116 | 166 => 117 | 169 => 118 | 240 => 125 | 241 => 126 | 276 => 131 | 277 => 132 | n => n, fun | 31 => 23 | 9 => 9 | 3 => 3 | 4 => 4 | 0 => 0 | 20 => 20 | 72 => 119 | 76 => 123 | 70 => 116 | 37 => 117 | 75 => 122 | 127 => 126 | 164 => 129 | 5 => 5 | 80 => 75 | n => n, fun | n => n⟩
theorem Try.lays156 : Go.Proofs.Lays.n156 Try.prog Try.lays156_ren := {
  mixed := by kernel_rfl
  f156 := Try.func103.trans (congrArg some (by kernel_rfl))
  f165 := Try.func116.trans (congrArg some (by kernel_rfl))
  f166 := Try.func117.trans (congrArg some (by kernel_rfl))
  f169 := Try.func118.trans (congrArg some (by kernel_rfl))
  f240 := Try.func125.trans (congrArg some (by kernel_rfl))
  f241 := Try.func126.trans (congrArg some (by kernel_rfl))
  f276 := Try.func131.trans (congrArg some (by kernel_rfl))
  f277 := Try.func132.trans (congrArg some (by kernel_rfl))
  t0 := Try.underlying0
  a0 := Try.isAgg0
  z0 := Try.sizeOf0
  v0 := Try.zeroValue0
  t3 := Try.underlying3
  a3 := Try.isAgg3
  z3 := Try.sizeOf3
  v3 := Try.zeroValue3
  t4 := Try.underlying4
  a4 := Try.isAgg4
  z4 := Try.sizeOf4
  v4 := Try.zeroValue4
  t9 := Try.underlying9
  a9 := Try.isAgg9
  z9 := Try.sizeOf9
  v9 := Try.zeroValue9
  t20 := Try.underlying20
  a20 := Try.isAgg20
  z20 := Try.sizeOf20
  v20 := Try.zeroValue20
  t31 := Try.underlying23
  a31 := Try.isAgg23
  z31 := Try.sizeOf23
  v31 := Try.zeroValue23
  t37 := Try.underlying117
  a37 := Try.isAgg117
  z37 := Try.sizeOf117
  v37 := Try.zeroValue117
  t70 := Try.underlying116
  a70 := Try.isAgg116
  z70 := Try.sizeOf116
  v70 := Try.zeroValue116
  t72 := Try.underlying119
  a72 := Try.isAgg119
  z72 := Try.sizeOf119
  v72 := Try.zeroValue119
  t75 := Try.underlying122
  a75 := Try.isAgg122
  z75 := Try.sizeOf122
  v75 := Try.zeroValue122
  t76 := Try.underlying123
  a76 := Try.isAgg123
  z76 := Try.sizeOf123
  v76 := Try.zeroValue123
  t127 := Try.underlying126
  a127 := Try.isAgg126
  z127 := Try.sizeOf126
  v127 := Try.zeroValue126
  t164 := Try.underlying129
  a164 := Try.isAgg129
  z164 := Try.sizeOf129
  v164 := Try.zeroValue129 }
theorem Try.Builder_Extra_156 : Builder.Extra Try.prog Try.lays156_ren := {
  sizeBuilder := by kernel_rfl
  liesBuilder := by kernel_rfl
  t5 := Try.underlying5
  a5 := Try.isAgg5
  z5 := Try.sizeOf5
  v5 := Try.zeroValue5
  infoByte := by kernel_rfl
  cellsByte := by kernel_rfl
  sizeByte := by kernel_rfl
  neB5 := by decide }
open Go.RowKit in
theorem Try.strings_Join_none (a : Option Addr) (c : Nat) (sep : ByteArray) (w : World) :
    Calls Try.prog 103 #[.slice a 0 c, .string sep] w fun e w' => e = .returned (.string ⟨#[]⟩) ∧ w' = w := Any.strings_Join_none Try.lays156 Try.Builder_Extra_156 a c sep w
open Go.RowKit in
theorem Try.strings_Join (bk o c : Nat) (xs : List ByteArray) (sep : ByteArray) (w : World) (hcells : ∀ (j : Nat) x, xs[j]? = some x → w.cell? ⟨bk, o + j, none⟩ = some (.string x)) (hbk : bk < w.heap.size) (hN : xs.length ≤ 140737488355328) (hcap : xs.length ≤ c) (hlen : (Lib.join (xs.map (·.data.toList)) sep.data.toList).length ≤ 140737488355328) :
    Calls Try.prog 103 #[.slice (some ⟨bk, o, none⟩) xs.length c, .string sep] w fun e w' => e = .returned (.string ⟨(Lib.join (xs.map (·.data.toList)) sep.data.toList).toArray⟩) ∧ Below w.heap.size w w' := Any.strings_Join Try.lays156 Try.Builder_Extra_156 bk o c xs sep w hcells hbk hN hcap hlen
def Try.lays137_ren : Go.Shelf.Ren := ⟨fun | 137 => 90 | 217 => 109 | 266 => 122 | n => n, fun | 9 => 9 | 5 => 5 | 3 => 3 | n => n, fun | n => n⟩
theorem Try.lays137 : Go.Proofs.Lays.n137 Try.prog Try.lays137_ren := {
  mixed := by kernel_rfl
  f137 := Try.func90.trans (congrArg some (by kernel_rfl))
  f217 := Try.func109.trans (congrArg some (by kernel_rfl))
  f266 := Try.func122.trans (congrArg some (by kernel_rfl))
  t3 := Try.underlying3
  a3 := Try.isAgg3
  z3 := Try.sizeOf3
  v3 := Try.zeroValue3
  t5 := Try.underlying5
  a5 := Try.isAgg5
  z5 := Try.sizeOf5
  v5 := Try.zeroValue5
  t9 := Try.underlying9
  a9 := Try.isAgg9
  z9 := Try.sizeOf9
  v9 := Try.zeroValue9 }
open Go.RowKit in
theorem Try.strings_IndexByte (s : ByteArray) (c : Int) (w : World) :
    Calls Try.prog 90 #[.string s, .int .u8 c] w fun e w' => e = .returned (.int .i64 (Lib.indexByte s.data.toList c.toNat.toUInt8)) ∧ w' = w := Any.strings_IndexByte Try.lays137 s c w
def Try.lays217_ren : Go.Shelf.Ren := ⟨fun | 217 => 109 | 266 => 122 | n => n, fun | 9 => 9 | 5 => 5 | 3 => 3 | n => n, fun | n => n⟩
theorem Try.lays217 : Go.Proofs.Lays.n217 Try.prog Try.lays217_ren := {
  mixed := by kernel_rfl
  f217 := Try.func109.trans (congrArg some (by kernel_rfl))
  f266 := Try.func122.trans (congrArg some (by kernel_rfl))
  t3 := Try.underlying3
  a3 := Try.isAgg3
  z3 := Try.sizeOf3
  v3 := Try.zeroValue3
  t5 := Try.underlying5
  a5 := Try.isAgg5
  z5 := Try.sizeOf5
  v5 := Try.zeroValue5
  t9 := Try.underlying9
  a9 := Try.isAgg9
  z9 := Try.sizeOf9
  v9 := Try.zeroValue9 }
open Go.RowKit Go.Lib in
theorem Try.stringslite_IndexByte (s : ByteArray) (c : Int) (w : World) :
    Calls Try.prog 109 #[.string s, .int .u8 c] w fun e w' => e = .returned (.int .i64 (Lib.indexByte s.data.toList c.toNat.toUInt8)) ∧ w' = w := Any.stringslite_IndexByte Try.lays217 s c w
def Try.lays224_ren : Go.Shelf.Ren := ⟨fun | 224 => 128 | n => n, fun | 3 => 3 | n => n, fun | n => n⟩
theorem Try.lays224 : Go.Proofs.Lays.n224 Try.prog Try.lays224_ren := {
  mixed := by kernel_rfl
  f224 := Try.func128.trans (congrArg some (by kernel_rfl))
  t3 := Try.underlying3
  a3 := Try.isAgg3
  z3 := Try.sizeOf3
  v3 := Try.zeroValue3 }
open Go.RowKit Go.Lib in
theorem Try.bytealg_Cutover (n : Int) (h0 : 0 ≤ n) (h1 : n < 4611686018427387904) (w : World) :
    Calls Try.prog 128 #[.int .i64 n] w fun e w' => e = .returned (.int .i64 ((n + 16) / 8)) ∧ w' = w := Any.bytealg_Cutover Try.lays224 n h0 h1 w
def Try.lays314_ren : Go.Shelf.Ren := ⟨fun | 314 => 133 | n => n, fun | 9 => 9 | 51 => 132 | 3 => 3 | 4 => 4 | 5 => 5 | 46 => 128 | n => n, fun | n => n⟩
theorem Try.lays314 : Go.Proofs.Lays.n314 Try.prog Try.lays314_ren := {
  mixed := by kernel_rfl
  f314 := Try.func133.trans (congrArg some (by kernel_rfl))
  t3 := Try.underlying3
  a3 := Try.isAgg3
  z3 := Try.sizeOf3
  v3 := Try.zeroValue3
  t4 := Try.underlying4
  a4 := Try.isAgg4
  z4 := Try.sizeOf4
  v4 := Try.zeroValue4
  t5 := Try.underlying5
  a5 := Try.isAgg5
  z5 := Try.sizeOf5
  v5 := Try.zeroValue5
  t9 := Try.underlying9
  a9 := Try.isAgg9
  z9 := Try.sizeOf9
  v9 := Try.zeroValue9
  t46 := Try.underlying128
  a46 := Try.isAgg128
  z46 := Try.sizeOf128
  v46 := Try.zeroValue128
  t51 := Try.underlying132
  a51 := Try.isAgg132
  z51 := Try.sizeOf132
  v51 := Try.zeroValue132 }
open Go.RowKit Go.Lib in
theorem Try.bytealg_hashStr (sep : ByteArray) (hs : sep.size < 4294967281) (w : World) :
    Calls Try.prog 133 #[.string sep] w fun e w' => e = .returned (.tuple #[.int .u32 (RK.H sep.data.toList % 4294967296), .int .u32 (16777619 ^ sep.size % 4294967296)]) ∧ w' = w := Any.bytealg_hashStr Try.lays314 sep hs w
def Try.lays267_ren : Go.Shelf.Ren := ⟨fun | 267 => 129 | 314 => 133 | n => n, fun | 9 => 9 | 3 => 3 | 146 => 133 | 51 => 132 | 4 => 4 | 5 => 5 | 46 => 128 | n => n, fun | n => n⟩
theorem Try.lays267 : Go.Proofs.Lays.n267 Try.prog Try.lays267_ren := {
  mixed := by kernel_rfl
  f267 := Try.func129.trans (congrArg some (by kernel_rfl))
  f314 := Try.func133.trans (congrArg some (by kernel_rfl))
  t3 := Try.underlying3
  a3 := Try.isAgg3
  z3 := Try.sizeOf3
  v3 := Try.zeroValue3
  t4 := Try.underlying4
  a4 := Try.isAgg4
  z4 := Try.sizeOf4
  v4 := Try.zeroValue4
  t5 := Try.underlying5
  a5 := Try.isAgg5
  z5 := Try.sizeOf5
  v5 := Try.zeroValue5
  t9 := Try.underlying9
  a9 := Try.isAgg9
  z9 := Try.sizeOf9
  v9 := Try.zeroValue9
  t46 := Try.underlying128
  a46 := Try.isAgg128
  z46 := Try.sizeOf128
  v46 := Try.zeroValue128
  t51 := Try.underlying132
  a51 := Try.isAgg132
  z51 := Try.sizeOf132
  v51 := Try.zeroValue132
  t146 := Try.underlying133
  a146 := Try.isAgg133
  z146 := Try.sizeOf133
  v146 := Try.zeroValue133 }
open Go.RowKit Go.Lib in
theorem Try.bytealg_IndexRabinKarp (s sep : ByteArray) (h1 : 1 ≤ sep.size) (h2 : sep.size ≤ s.size) (hs : s.size < 4294967281) (w : World) :
    Calls Try.prog 129 #[.string s, .string sep] w fun e w' => e = .returned (.int .i64 (Lib.index s.data.toList sep.data.toList)) ∧ w' = w := Any.bytealg_IndexRabinKarp Try.lays267 s sep h1 h2 hs w
def Try.lays219_ren : Go.Shelf.Ren := ⟨fun | 219 => 121 | 217 => 109 | 225 => 127 | 224 => 128 | 267 => 129 | 266 => 122 | 314 => 133 | n => n, fun | 9 => 9 | 3 => 3 | 4 => 4 | 5 => 5 | 46 => 128 | 146 => 133 | 51 => 132 | n => n, fun | 1 => 0 | n => n⟩
theorem Try.lays219 : Go.Proofs.Lays.n219 Try.prog Try.lays219_ren := {
  mixed := by kernel_rfl
  f217 := Try.func109.trans (congrArg some (by kernel_rfl))
  f219 := Try.func121.trans (congrArg some (by kernel_rfl))
  f224 := Try.func128.trans (congrArg some (by kernel_rfl))
  f225 := Try.func127.trans (congrArg some (by kernel_rfl))
  f266 := Try.func122.trans (congrArg some (by kernel_rfl))
  f267 := Try.func129.trans (congrArg some (by kernel_rfl))
  f314 := Try.func133.trans (congrArg some (by kernel_rfl))
  t3 := Try.underlying3
  a3 := Try.isAgg3
  z3 := Try.sizeOf3
  v3 := Try.zeroValue3
  t4 := Try.underlying4
  a4 := Try.isAgg4
  z4 := Try.sizeOf4
  v4 := Try.zeroValue4
  t5 := Try.underlying5
  a5 := Try.isAgg5
  z5 := Try.sizeOf5
  v5 := Try.zeroValue5
  t9 := Try.underlying9
  a9 := Try.isAgg9
  z9 := Try.sizeOf9
  v9 := Try.zeroValue9
  t46 := Try.underlying128
  a46 := Try.isAgg128
  z46 := Try.sizeOf128
  v46 := Try.zeroValue128
  t51 := Try.underlying132
  a51 := Try.isAgg132
  z51 := Try.sizeOf132
  v51 := Try.zeroValue132
  t146 := Try.underlying133
  a146 := Try.isAgg133
  z146 := Try.sizeOf133
  v146 := Try.zeroValue133
  g1 := by kernel_rfl }
open Go.RowKit Go.Lib in
theorem Try.stringslite_Index_one (s : ByteArray) (c : UInt8) (w : World) :
    Calls Try.prog 121 #[.string s, .string ⟨#[c]⟩] w fun e w' => e = .returned (.int .i64 (Lib.indexByte s.data.toList c)) ∧ w' = w := Any.stringslite_Index_one Try.lays219 s c w
open Go.RowKit Go.Lib in
theorem Try.stringslite_Index (s sub : ByteArray) (m : Int) (w : World) (hs : s.size < 4294967281) (hm : w.cell? ⟨0, 0, none⟩ = some (.int .i64 m)) :
    Calls Try.prog 121 #[.string s, .string sub] w fun e w' => e = .returned (.int .i64 (Lib.index s.data.toList sub.data.toList)) ∧ w' = w := Any.stringslite_Index Try.lays219 s sub m w hs hm
def Try.lays143_ren : Go.Shelf.Ren := ⟨fun | 143 => 108 | 219 => 121 | 217 => 109 | 225 => 127 | 224 => 128 | 267 => 129 | 266 => 122 | 314 => 133 | n => n, fun | 9 => 9 | 3 => 3 | 4 => 4 | 5 => 5 | 46 => 128 | 146 => 133 | 51 => 132 | n => n, fun | 1 => 0 | n => n⟩
theorem Try.lays143 : Go.Proofs.Lays.n143 Try.prog Try.lays143_ren := {
  mixed := by kernel_rfl
  f143 := Try.func108.trans (congrArg some (by kernel_rfl))
  f217 := Try.func109.trans (congrArg some (by kernel_rfl))
  f219 := Try.func121.trans (congrArg some (by kernel_rfl))
  f224 := Try.func128.trans (congrArg some (by kernel_rfl))
  f225 := Try.func127.trans (congrArg some (by kernel_rfl))
  f266 := Try.func122.trans (congrArg some (by kernel_rfl))
  f267 := Try.func129.trans (congrArg some (by kernel_rfl))
  f314 := Try.func133.trans (congrArg some (by kernel_rfl))
  t3 := Try.underlying3
  a3 := Try.isAgg3
  z3 := Try.sizeOf3
  v3 := Try.zeroValue3
  t4 := Try.underlying4
  a4 := Try.isAgg4
  z4 := Try.sizeOf4
  v4 := Try.zeroValue4
  t5 := Try.underlying5
  a5 := Try.isAgg5
  z5 := Try.sizeOf5
  v5 := Try.zeroValue5
  t9 := Try.underlying9
  a9 := Try.isAgg9
  z9 := Try.sizeOf9
  v9 := Try.zeroValue9
  t46 := Try.underlying128
  a46 := Try.isAgg128
  z46 := Try.sizeOf128
  v46 := Try.zeroValue128
  t51 := Try.underlying132
  a51 := Try.isAgg132
  z51 := Try.sizeOf132
  v51 := Try.zeroValue132
  t146 := Try.underlying133
  a146 := Try.isAgg133
  z146 := Try.sizeOf133
  v146 := Try.zeroValue133
  g1 := by kernel_rfl }
open Go.RowKit Go.Lib in
theorem Try.strings_Index_one (s : ByteArray) (c : UInt8) (w : World) :
    Calls Try.prog 108 #[.string s, .string ⟨#[c]⟩] w fun e w' => e = .returned (.int .i64 (Lib.indexByte s.data.toList c)) ∧ w' = w := Any.strings_Index_one Try.lays143 s c w
open Go.RowKit Go.Lib in
theorem Try.strings_Index (s sub : ByteArray) (m : Int) (w : World) (hs : s.size < 4294967281) (hm : w.cell? ⟨0, 0, none⟩ = some (.int .i64 m)) :
    Calls Try.prog 108 #[.string s, .string sub] w fun e w' => e = .returned (.int .i64 (Lib.index s.data.toList sub.data.toList)) ∧ w' = w := Any.strings_Index Try.lays143 s sub m w hs hm
def Try.lays144_ren : Go.Shelf.Ren := ⟨fun | 144 => 83 | 143 => 108 | 219 => 121 | 217 => 109 | 225 => 127 | 224 => 128 | 267 => 129 | 266 => 122 | 314 => 133 | n => n, fun | 9 => 9 | 4 => 4 | 3 => 3 | 5 => 5 | 46 => 128 | 146 => 133 | 51 => 132 | n => n, fun | 1 => 0 | n => n⟩
theorem Try.lays144 : Go.Proofs.Lays.n144 Try.prog Try.lays144_ren := {
  mixed := by kernel_rfl
  f143 := Try.func108.trans (congrArg some (by kernel_rfl))
  f144 := Try.func83.trans (congrArg some (by kernel_rfl))
  f217 := Try.func109.trans (congrArg some (by kernel_rfl))
  f219 := Try.func121.trans (congrArg some (by kernel_rfl))
  f224 := Try.func128.trans (congrArg some (by kernel_rfl))
  f225 := Try.func127.trans (congrArg some (by kernel_rfl))
  f266 := Try.func122.trans (congrArg some (by kernel_rfl))
  f267 := Try.func129.trans (congrArg some (by kernel_rfl))
  f314 := Try.func133.trans (congrArg some (by kernel_rfl))
  t3 := Try.underlying3
  a3 := Try.isAgg3
  z3 := Try.sizeOf3
  v3 := Try.zeroValue3
  t4 := Try.underlying4
  a4 := Try.isAgg4
  z4 := Try.sizeOf4
  v4 := Try.zeroValue4
  t5 := Try.underlying5
  a5 := Try.isAgg5
  z5 := Try.sizeOf5
  v5 := Try.zeroValue5
  t9 := Try.underlying9
  a9 := Try.isAgg9
  z9 := Try.sizeOf9
  v9 := Try.zeroValue9
  t46 := Try.underlying128
  a46 := Try.isAgg128
  z46 := Try.sizeOf128
  v46 := Try.zeroValue128
  t51 := Try.underlying132
  a51 := Try.isAgg132
  z51 := Try.sizeOf132
  v51 := Try.zeroValue132
  t146 := Try.underlying133
  a146 := Try.isAgg133
  z146 := Try.sizeOf133
  v146 := Try.zeroValue133
  g1 := by kernel_rfl }
open Go.RowKit Go.Lib in
theorem Try.strings_Contains_one (s : ByteArray) (c : UInt8) (w : World) :
    Calls Try.prog 83 #[.string s, .string ⟨#[c]⟩] w fun e w' => e = .returned (.bool (decide (0 ≤ Lib.indexByte s.data.toList c))) ∧ w' = w := Any.strings_Contains_one Try.lays144 s c w
open Go.RowKit Go.Lib in
theorem Try.strings_Contains (s sub : ByteArray) (m : Int) (w : World) (hs : s.size < 4294967281) (hm : w.cell? ⟨0, 0, none⟩ = some (.int .i64 m)) :
    Calls Try.prog 83 #[.string s, .string sub] w fun e w' => e = .returned (.bool (Lib.contains s.data.toList sub.data.toList)) ∧ w' = w := Any.strings_Contains Try.lays144 s sub m w hs hm
def Try.laysM219_ren : Go.Shelf.Ren := ⟨fun | 219 => 121 | 217 => 109 | 225 => 127 | 224 => 128 | 267 => 129 | 266 => 122 | 314 => 133 | n => n, fun | 9 => 9 | 3 => 3 | 4 => 4 | 5 => 5 | 46 => 128 | 146 => 133 | 51 => 132 | n => n, fun | 1 => 0 | n => n⟩
theorem Try.laysM219 : Go.Proofs.LaysM.n219 Try.prog Try.laysM219_ren := {
  mixed := by kernel_rfl
  f217 := Try.func109.trans (congrArg some (by kernel_rfl))
  f219 := Try.func121.trans (congrArg some (by kernel_rfl))
  f224 := Try.func128.trans (congrArg some (by kernel_rfl))
  f225 := Try.func127.trans (congrArg some (by kernel_rfl))
  f266 := Try.func122.trans (congrArg some (by kernel_rfl))
  f267 := Try.func129.trans (congrArg some (by kernel_rfl))
  f314 := Try.func133.trans (congrArg some (by kernel_rfl))
  t3 := Try.underlying3
  a3 := Try.isAgg3
  z3 := Try.sizeOf3
  v3 := Try.zeroValue3
  t4 := Try.underlying4
  a4 := Try.isAgg4
  z4 := Try.sizeOf4
  v4 := Try.zeroValue4
  t5 := Try.underlying5
  a5 := Try.isAgg5
  z5 := Try.sizeOf5
  v5 := Try.zeroValue5
  t9 := Try.underlying9
  a9 := Try.isAgg9
  z9 := Try.sizeOf9
  v9 := Try.zeroValue9
  t46 := Try.underlying128
  a46 := Try.isAgg128
  z46 := Try.sizeOf128
  v46 := Try.zeroValue128
  t51 := Try.underlying132
  a51 := Try.isAgg132
  z51 := Try.sizeOf132
  v51 := Try.zeroValue132
  t146 := Try.underlying133
  a146 := Try.isAgg133
  z146 := Try.sizeOf133
  v146 := Try.zeroValue133
  g1 := by kernel_rfl
  i3 := by kernel_rfl
  i4 := by kernel_rfl
  i5 := by kernel_rfl
  i9 := by kernel_rfl
  i46 := by kernel_rfl
  i51 := by kernel_rfl
  i146 := by kernel_rfl
  m1 := by kernel_rfl
  s1_3 := fun w h => Go.Proofs.cell_of_shapedOpen_int (zero := #[.int .i64 0]) (t := 3) h (of_decide_eq_true (by kernel_rfl)) (by kernel_rfl) rfl (by kernel_rfl) (by kernel_rfl) Try.underlying3 }
open Go.RowKit Go.Lib in
theorem Try.stringslite_Index_shaped (s sub : ByteArray) (w : World) (h : w.ShapedOpen Try.prog) (hs : s.size < 4294967281) :
    Calls Try.prog 121 #[.string s, .string sub] w fun e w' => e = .returned (.int .i64 (Lib.index s.data.toList sub.data.toList)) ∧ w' = w := Any.stringslite_Index_shaped Try.laysM219 s sub w h hs
def Try.laysM143_ren : Go.Shelf.Ren := ⟨fun | 143 => 108 | 219 => 121 | 217 => 109 | 225 => 127 | 224 => 128 | 267 => 129 | 266 => 122 | 314 => 133 | n => n, fun | 9 => 9 | 3 => 3 | 4 => 4 | 5 => 5 | 46 => 128 | 146 => 133 | 51 => 132 | n => n, fun | 1 => 0 | n => n⟩
theorem Try.laysM143 : Go.Proofs.LaysM.n143 Try.prog Try.laysM143_ren := {
  mixed := by kernel_rfl
  f143 := Try.func108.trans (congrArg some (by kernel_rfl))
  f217 := Try.func109.trans (congrArg some (by kernel_rfl))
  f219 := Try.func121.trans (congrArg some (by kernel_rfl))
  f224 := Try.func128.trans (congrArg some (by kernel_rfl))
  f225 := Try.func127.trans (congrArg some (by kernel_rfl))
  f266 := Try.func122.trans (congrArg some (by kernel_rfl))
  f267 := Try.func129.trans (congrArg some (by kernel_rfl))
  f314 := Try.func133.trans (congrArg some (by kernel_rfl))
  t3 := Try.underlying3
  a3 := Try.isAgg3
  z3 := Try.sizeOf3
  v3 := Try.zeroValue3
  t4 := Try.underlying4
  a4 := Try.isAgg4
  z4 := Try.sizeOf4
  v4 := Try.zeroValue4
  t5 := Try.underlying5
  a5 := Try.isAgg5
  z5 := Try.sizeOf5
  v5 := Try.zeroValue5
  t9 := Try.underlying9
  a9 := Try.isAgg9
  z9 := Try.sizeOf9
  v9 := Try.zeroValue9
  t46 := Try.underlying128
  a46 := Try.isAgg128
  z46 := Try.sizeOf128
  v46 := Try.zeroValue128
  t51 := Try.underlying132
  a51 := Try.isAgg132
  z51 := Try.sizeOf132
  v51 := Try.zeroValue132
  t146 := Try.underlying133
  a146 := Try.isAgg133
  z146 := Try.sizeOf133
  v146 := Try.zeroValue133
  g1 := by kernel_rfl
  i3 := by kernel_rfl
  i4 := by kernel_rfl
  i5 := by kernel_rfl
  i9 := by kernel_rfl
  i46 := by kernel_rfl
  i51 := by kernel_rfl
  i146 := by kernel_rfl
  m1 := by kernel_rfl
  s1_3 := fun w h => Go.Proofs.cell_of_shapedOpen_int (zero := #[.int .i64 0]) (t := 3) h (of_decide_eq_true (by kernel_rfl)) (by kernel_rfl) rfl (by kernel_rfl) (by kernel_rfl) Try.underlying3 }
open Go.RowKit Go.Lib in
theorem Try.strings_Index_shaped (s sub : ByteArray) (w : World) (h : w.ShapedOpen Try.prog) (hs : s.size < 4294967281) :
    Calls Try.prog 108 #[.string s, .string sub] w fun e w' => e = .returned (.int .i64 (Lib.index s.data.toList sub.data.toList)) ∧ w' = w := Any.strings_Index_shaped Try.laysM143 s sub w h hs
def Try.laysM144_ren : Go.Shelf.Ren := ⟨fun | 144 => 83 | 143 => 108 | 219 => 121 | 217 => 109 | 225 => 127 | 224 => 128 | 267 => 129 | 266 => 122 | 314 => 133 | n => n, fun | 9 => 9 | 4 => 4 | 3 => 3 | 5 => 5 | 46 => 128 | 146 => 133 | 51 => 132 | n => n, fun | 1 => 0 | n => n⟩
theorem Try.laysM144 : Go.Proofs.LaysM.n144 Try.prog Try.laysM144_ren := {
  mixed := by kernel_rfl
  f143 := Try.func108.trans (congrArg some (by kernel_rfl))
  f144 := Try.func83.trans (congrArg some (by kernel_rfl))
  f217 := Try.func109.trans (congrArg some (by kernel_rfl))
  f219 := Try.func121.trans (congrArg some (by kernel_rfl))
  f224 := Try.func128.trans (congrArg some (by kernel_rfl))
  f225 := Try.func127.trans (congrArg some (by kernel_rfl))
  f266 := Try.func122.trans (congrArg some (by kernel_rfl))
  f267 := Try.func129.trans (congrArg some (by kernel_rfl))
  f314 := Try.func133.trans (congrArg some (by kernel_rfl))
  t3 := Try.underlying3
  a3 := Try.isAgg3
  z3 := Try.sizeOf3
  v3 := Try.zeroValue3
  t4 := Try.underlying4
  a4 := Try.isAgg4
  z4 := Try.sizeOf4
  v4 := Try.zeroValue4
  t5 := Try.underlying5
  a5 := Try.isAgg5
  z5 := Try.sizeOf5
  v5 := Try.zeroValue5
  t9 := Try.underlying9
  a9 := Try.isAgg9
  z9 := Try.sizeOf9
  v9 := Try.zeroValue9
  t46 := Try.underlying128
  a46 := Try.isAgg128
  z46 := Try.sizeOf128
  v46 := Try.zeroValue128
  t51 := Try.underlying132
  a51 := Try.isAgg132
  z51 := Try.sizeOf132
  v51 := Try.zeroValue132
  t146 := Try.underlying133
  a146 := Try.isAgg133
  z146 := Try.sizeOf133
  v146 := Try.zeroValue133
  g1 := by kernel_rfl
  i3 := by kernel_rfl
  i4 := by kernel_rfl
  i5 := by kernel_rfl
  i9 := by kernel_rfl
  i46 := by kernel_rfl
  i51 := by kernel_rfl
  i146 := by kernel_rfl
  m1 := by kernel_rfl
  s1_3 := fun w h => Go.Proofs.cell_of_shapedOpen_int (zero := #[.int .i64 0]) (t := 3) h (of_decide_eq_true (by kernel_rfl)) (by kernel_rfl) rfl (by kernel_rfl) (by kernel_rfl) Try.underlying3 }
open Go.RowKit Go.Lib in
theorem Try.strings_Contains_shaped (s sub : ByteArray) (w : World) (h : w.ShapedOpen Try.prog) (hs : s.size < 4294967281) :
    Calls Try.prog 83 #[.string s, .string sub] w fun e w' => e = .returned (.bool (Lib.contains s.data.toList sub.data.toList)) ∧ w' = w := Any.strings_Contains_shaped Try.laysM144 s sub w h hs
def Try.lays315_ren : Go.Shelf.Ren := ⟨fun | 315 => 120 | n => n, fun | 9 => 9 | 40 => 96 | 4 => 4 | 3 => 3 | 0 => 0 | 21 => 21 | n => n, fun | n => n⟩
theorem Try.lays315 : Go.Proofs.Lays.n315 Try.prog Try.lays315_ren := {
  mixed := by kernel_rfl
  f315 := Try.func120.trans (congrArg some (by kernel_rfl))
  t0 := Try.underlying0
  a0 := Try.isAgg0
  z0 := Try.sizeOf0
  v0 := Try.zeroValue0
  t3 := Try.underlying3
  a3 := Try.isAgg3
  z3 := Try.sizeOf3
  v3 := Try.zeroValue3
  t4 := Try.underlying4
  a4 := Try.isAgg4
  z4 := Try.sizeOf4
  v4 := Try.zeroValue4
  t9 := Try.underlying9
  a9 := Try.isAgg9
  z9 := Try.sizeOf9
  v9 := Try.zeroValue9
  t21 := Try.underlying21
  a21 := Try.isAgg21
  z21 := Try.sizeOf21
  v21 := Try.zeroValue21
  t40 := Try.underlying96
  a40 := Try.isAgg96
  z40 := Try.sizeOf96
  v40 := Try.zeroValue96 }
open Go.RowKit Go.Lib in
theorem Try.strings_indexFunc (g : Nat) (lb : Array Value) (eg : ∀ args w, (callFunc g args).run Try.prog w = .ok (.enter g args) w) (p : Nat → Bool) (truth : Bool) (s : ByteArray) (w : World) (hp : PredAt Try.prog g lb encR p w) :
    Calls Try.prog 120 #[.string s, .func (.func g) #[] lb, .bool truth] w fun e w' => e = .returned (.int .i64 (Lib.idxFunc p truth s)) ∧ Below w.heap.size w w' := Any.strings_indexFunc Try.lays315 g lb eg p truth s w hp
def Try.laysGw15_ren : Go.Shelf.Ren := ⟨fun | 15 => 107 | 20 => 120 | n => n, fun | 9 => 9 | 23 => 96 | 3 => 3 | 4 => 4 | 0 => 0 | 21 => 21 | n => n, fun | n => n⟩
theorem Try.laysGw15 : Go.Proofs.LaysGw.n15 Try.prog Try.laysGw15_ren := {
  mixed := by kernel_rfl
  f15 := Try.func107.trans (congrArg some (by kernel_rfl))
  f20 := Try.func120.trans (congrArg some (by kernel_rfl))
  t0 := Try.underlying0
  a0 := Try.isAgg0
  z0 := Try.sizeOf0
  v0 := Try.zeroValue0
  i0 := by kernel_rfl
  t3 := Try.underlying3
  a3 := Try.isAgg3
  z3 := Try.sizeOf3
  v3 := Try.zeroValue3
  i3 := by kernel_rfl
  t4 := Try.underlying4
  a4 := Try.isAgg4
  z4 := Try.sizeOf4
  v4 := Try.zeroValue4
  i4 := by kernel_rfl
  t9 := Try.underlying9
  a9 := Try.isAgg9
  z9 := Try.sizeOf9
  v9 := Try.zeroValue9
  i9 := by kernel_rfl
  t21 := Try.underlying21
  a21 := Try.isAgg21
  z21 := Try.sizeOf21
  v21 := Try.zeroValue21
  i21 := by kernel_rfl
  t23 := Try.underlying96
  a23 := Try.isAgg96
  z23 := Try.sizeOf96
  v23 := Try.zeroValue96
  i23 := by kernel_rfl }
open Go.RowKit Go.Lib in
theorem Try.strings_IndexFunc (g : Nat) (lb : Array Value) (eg : ∀ args w, (callFunc g args).run Try.prog w = .ok (.enter g args) w) (p : Nat → Bool) (s : ByteArray) (w : World) (hp : PredAt Try.prog g lb encR p w) :
    Calls Try.prog 107 #[.string s, .func (.func g) #[] lb] w fun e w' => e = .returned (.int .i64 (Lib.idxFunc p true s)) ∧ Below w.heap.size w w' := Any.strings_IndexFunc Try.laysGw15 g lb eg p s w hp
def Try.laysGw17_ren : Go.Shelf.Ren := ⟨fun | 17 => 81 | 15 => 107 | 20 => 120 | n => n, fun | 9 => 9 | 23 => 96 | 4 => 4 | 3 => 3 | 0 => 0 | 21 => 21 | n => n, fun | n => n⟩
theorem Try.laysGw17 : Go.Proofs.LaysGw.n17 Try.prog Try.laysGw17_ren := {
  mixed := by kernel_rfl
  f15 := Try.func107.trans (congrArg some (by kernel_rfl))
  f17 := Try.func81.trans (congrArg some (by kernel_rfl))
  f20 := Try.func120.trans (congrArg some (by kernel_rfl))
  t0 := Try.underlying0
  a0 := Try.isAgg0
  z0 := Try.sizeOf0
  v0 := Try.zeroValue0
  i0 := by kernel_rfl
  t3 := Try.underlying3
  a3 := Try.isAgg3
  z3 := Try.sizeOf3
  v3 := Try.zeroValue3
  i3 := by kernel_rfl
  t4 := Try.underlying4
  a4 := Try.isAgg4
  z4 := Try.sizeOf4
  v4 := Try.zeroValue4
  i4 := by kernel_rfl
  t9 := Try.underlying9
  a9 := Try.isAgg9
  z9 := Try.sizeOf9
  v9 := Try.zeroValue9
  i9 := by kernel_rfl
  t21 := Try.underlying21
  a21 := Try.isAgg21
  z21 := Try.sizeOf21
  v21 := Try.zeroValue21
  i21 := by kernel_rfl
  t23 := Try.underlying96
  a23 := Try.isAgg96
  z23 := Try.sizeOf96
  v23 := Try.zeroValue96
  i23 := by kernel_rfl }
open Go.RowKit Go.Lib in
theorem Try.strings_ContainsFunc (g : Nat) (lb : Array Value) (eg : ∀ args w, (callFunc g args).run Try.prog w = .ok (.enter g args) w) (p : Nat → Bool) (s : ByteArray) (w : World) (hp : PredAt Try.prog g lb encR p w) :
    Calls Try.prog 81 #[.string s, .func (.func g) #[] lb] w fun e w' => e = .returned (.bool (decide (0 ≤ Lib.idxFunc p true s))) ∧ Below w.heap.size w w' := Any.strings_ContainsFunc Try.laysGw17 g lb eg p s w hp
open Go.RowKit Go.Lib in
theorem Try.strings_indexFunc_runes (g : Nat) (lb : Array Value) (eg : ∀ args w, (callFunc g args).run Try.prog w = .ok (.enter g args) w) (p : Nat → Bool) (truth : Bool) (s : ByteArray) (w : World) (hp : PredAtRunes Try.prog g lb p w) :
    Calls Try.prog 120 #[.string s, .func (.func g) #[] lb, .bool truth] w fun e w' => e = .returned (.int .i64 (Lib.idxFunc p truth s)) ∧ Below w.heap.size w w' := Any.strings_indexFunc_runes Try.lays315 g lb eg p truth s w hp
open Go.RowKit Go.Lib in
theorem Try.strings_IndexFunc_runes (g : Nat) (lb : Array Value) (eg : ∀ args w, (callFunc g args).run Try.prog w = .ok (.enter g args) w) (p : Nat → Bool) (s : ByteArray) (w : World) (hp : PredAtRunes Try.prog g lb p w) :
    Calls Try.prog 107 #[.string s, .func (.func g) #[] lb] w fun e w' => e = .returned (.int .i64 (Lib.idxFunc p true s)) ∧ Below w.heap.size w w' := Any.strings_IndexFunc_runes Try.laysGw15 g lb eg p s w hp
open Go.RowKit Go.Lib in
theorem Try.strings_ContainsFunc_runes (g : Nat) (lb : Array Value) (eg : ∀ args w, (callFunc g args).run Try.prog w = .ok (.enter g args) w) (p : Nat → Bool) (s : ByteArray) (w : World) (hp : PredAtRunes Try.prog g lb p w) :
    Calls Try.prog 81 #[.string s, .func (.func g) #[] lb] w fun e w' => e = .returned (.bool (decide (0 ≤ Lib.idxFunc p true s))) ∧ Below w.heap.size w w' := Any.strings_ContainsFunc_runes Try.laysGw17 g lb eg p s w hp
def Try.lays206_ren : Go.Shelf.Ren := ⟨fun | 206 => 119 | n => n, fun | 9 => 9 | 4 => 4 | 3 => 3 | n => n, fun | n => n⟩
theorem Try.lays206 : Go.Proofs.Lays.n206 Try.prog Try.lays206_ren := {
  mixed := by kernel_rfl
  f206 := Try.func119.trans (congrArg some (by kernel_rfl))
  t3 := Try.underlying3
  a3 := Try.isAgg3
  z3 := Try.sizeOf3
  v3 := Try.zeroValue3
  t4 := Try.underlying4
  a4 := Try.isAgg4
  z4 := Try.sizeOf4
  v4 := Try.zeroValue4
  t9 := Try.underlying9
  a9 := Try.isAgg9
  z9 := Try.sizeOf9
  v9 := Try.zeroValue9 }
open Go.RowKit Go.Lib in
theorem Try.stringslite_HasPrefix (s p : ByteArray) (w : World) :
    Calls Try.prog 119 #[.string s, .string p] w fun e w' => e = .returned (.bool (Lib.hasPrefix s.data.toList p.data.toList)) ∧ w' = w := Any.stringslite_HasPrefix Try.lays206 s p w
def Try.lays208_ren : Go.Shelf.Ren := ⟨fun | 208 => 106 | 206 => 119 | n => n, fun | 9 => 9 | 4 => 4 | 3 => 3 | n => n, fun | n => n⟩
theorem Try.lays208 : Go.Proofs.Lays.n208 Try.prog Try.lays208_ren := {
  mixed := by kernel_rfl
  f206 := Try.func119.trans (congrArg some (by kernel_rfl))
  f208 := Try.func106.trans (congrArg some (by kernel_rfl))
  t3 := Try.underlying3
  a3 := Try.isAgg3
  z3 := Try.sizeOf3
  v3 := Try.zeroValue3
  t4 := Try.underlying4
  a4 := Try.isAgg4
  z4 := Try.sizeOf4
  v4 := Try.zeroValue4
  t9 := Try.underlying9
  a9 := Try.isAgg9
  z9 := Try.sizeOf9
  v9 := Try.zeroValue9 }
open Go.RowKit Go.Lib in
theorem Try.stringslite_TrimPrefix (s p : ByteArray) (w : World) :
    Calls Try.prog 106 #[.string s, .string p] w fun e w' => e = .returned (.string ⟨(Lib.trimPrefix s.data.toList p.data.toList).toArray⟩) ∧ w' = w := Any.stringslite_TrimPrefix Try.lays208 s p w
def Try.lays101_ren : Go.Shelf.Ren := ⟨fun | 101 => 80 | 208 => 106 | 206 => 119 | n => n, fun | 9 => 9 | 4 => 4 | 3 => 3 | n => n, fun | n => n⟩
theorem Try.lays101 : Go.Proofs.Lays.n101 Try.prog Try.lays101_ren := {
  mixed := by kernel_rfl
  f101 := Try.func80.trans (congrArg some (by kernel_rfl))
  f206 := Try.func119.trans (congrArg some (by kernel_rfl))
  f208 := Try.func106.trans (congrArg some (by kernel_rfl))
  t3 := Try.underlying3
  a3 := Try.isAgg3
  z3 := Try.sizeOf3
  v3 := Try.zeroValue3
  t4 := Try.underlying4
  a4 := Try.isAgg4
  z4 := Try.sizeOf4
  v4 := Try.zeroValue4
  t9 := Try.underlying9
  a9 := Try.isAgg9
  z9 := Try.sizeOf9
  v9 := Try.zeroValue9 }
open Go.RowKit Go.Lib in
theorem Try.strings_TrimPrefix (s p : ByteArray) (w : World) :
    Calls Try.prog 80 #[.string s, .string p] w fun e w' => e = .returned (.string ⟨(Lib.trimPrefix s.data.toList p.data.toList).toArray⟩) ∧ w' = w := Any.strings_TrimPrefix Try.lays101 s p w
open Go.RowKit Go.Lib in
theorem Try.strings_indexFunc_grows (g : Nat) (lb : Array Value) (eg : ∀ args w, (callFunc g args).run Try.prog w = .ok (.enter g args) w) (p : Nat → Bool) (truth : Bool) (s : ByteArray) (w : World) (hp : PredGrows Try.prog g lb p w) :
    Calls Try.prog 120 #[.string s, .func (.func g) #[] lb, .bool truth] w fun e w' => e = .returned (.int .i64 (Lib.idxFunc p truth s)) ∧ Below w.heap.size w w' := Any.strings_indexFunc_grows Try.lays315 g lb eg p truth s w hp
open Go.RowKit Go.Lib in
theorem Try.strings_IndexFunc_grows (g : Nat) (lb : Array Value) (eg : ∀ args w, (callFunc g args).run Try.prog w = .ok (.enter g args) w) (p : Nat → Bool) (s : ByteArray) (w : World) (hp : PredGrows Try.prog g lb p w) :
    Calls Try.prog 107 #[.string s, .func (.func g) #[] lb] w fun e w' => e = .returned (.int .i64 (Lib.idxFunc p true s)) ∧ Below w.heap.size w w' := Any.strings_IndexFunc_grows Try.laysGw15 g lb eg p s w hp
open Go.RowKit Go.Lib in
theorem Try.strings_ContainsFunc_grows (g : Nat) (lb : Array Value) (eg : ∀ args w, (callFunc g args).run Try.prog w = .ok (.enter g args) w) (p : Nat → Bool) (s : ByteArray) (w : World) (hp : PredGrows Try.prog g lb p w) :
    Calls Try.prog 81 #[.string s, .func (.func g) #[] lb] w fun e w' => e = .returned (.bool (decide (0 ≤ Lib.idxFunc p true s))) ∧ Below w.heap.size w w' := Any.strings_ContainsFunc_grows Try.laysGw17 g lb eg p s w hp
end Go.Proofs
end
section
namespace Go.Proofs.Ytdelccahgchadaa.P
open Go.RowKit Go.Shelf Go.Lib Go.Proofs.YtdelccahgchadaaW.PrintWords Go.Proofs.YtdelccahgchadaaW.PrintLast Go.Proofs.YtdelccahgchadaaW.PrintMore
set_option linter.unusedVariables false
set_option linter.unusedSimpArgs false
def strings_TrimPrefix.f (a0 a1 : ByteArray) : Option ByteArray := some ⟨(Lib.trimPrefix a0.data.toList a1.data.toList).toArray⟩
theorem strings_TrimPrefix.calls (a0 a1 r : ByteArray) (w : World) (h : strings_TrimPrefix.f a0 a1 = some r) :
  Calls Try.prog 80 #[.string a0, .string a1] w fun e w' => e = .returned (.string r) ∧ Drawn0 w w' := by
 obtain rfl := Option.some.inj h
 refine (Try.strings_TrimPrefix a0 a1 w).mono ?_
 rintro e w' ⟨rfl, rfl⟩
 exact ⟨rfl, Drawn0.refl _⟩
def strings_IndexByte.f (a0 : ByteArray) (a1 : Int) : Option Int := some (Lib.indexByte a0.data.toList a1.toNat.toUInt8)
theorem strings_IndexByte.calls (a0 : ByteArray) (a1 : Int) (r : Int) (w : World) (h : strings_IndexByte.f a0 a1 = some r) :
  Calls Try.prog 90 #[.string a0, .int .u8 a1] w fun e w' => e = .returned (.int .i64 r) ∧ Drawn0 w w' := by
 obtain rfl := Option.some.inj h
 refine (Try.strings_IndexByte a0 a1 w).mono ?_
 rintro e w' ⟨rfl, rfl⟩
 exact ⟨rfl, Drawn0.refl _⟩
theorem spot_none {w : World} {bk o : Nat} {sp : Option Nat} {v : Value} (h : w.cell? ((⟨bk, o, sp⟩ : Addr).add 0) = some v) : sp = none := by
 cases sp with
 | none => rfl
 | some n =>
  exfalso
  unfold World.cell? Addr.add at h
  simp at h
  split at h <;> simp at h
def joinB (l : List ByteArray) (sep : ByteArray) : List UInt8 := Lib.join (l.map (·.data.toList)) sep.data.toList
def strings_Join.f (l0 : List ByteArray) (a1 : ByteArray) : Option ByteArray := if l0.length ≤ 140737488355328 ∧ (joinB l0 a1).length ≤ 140737488355328 then some ⟨(joinB l0 a1).toArray⟩ else none
theorem strings_Join.calls (A0 : Option Addr) (c0 : Nat) (l0 : List ByteArray) (a1 : ByteArray) (r : ByteArray) (w : World) (hr0 : Kd.C Kd.string w A0 l0.length l0) (hc0 : l0.length ≤ c0) (h : strings_Join.f l0 a1 = some r) :
  Calls Try.prog 103 #[.slice A0 l0.length c0, .string a1] w fun e w' => e = .returned (.string r) ∧ Below w.heap.size w w' := by
 unfold strings_Join.f at h
 by_cases hb : l0.length ≤ 140737488355328 ∧ (joinB l0 a1).length ≤ 140737488355328
 ·rw [if_pos hb] at h
  obtain rfl := Option.some.inj h
  by_cases h0 : l0 = []
  ·subst h0
   refine (Try.strings_Join_none A0 c0 a1 w).mono ?_
   rintro e w' ⟨rfl, rfl⟩
   exact ⟨by simp [joinB, Lib.join], Below.refl _ _⟩
  ·obtain ⟨ad, rfl, hc⟩ := hr0.2.2 (by cases l0 with | nil => exact absurd rfl h0 | cons => simp)
   have hcell : ∀ j x, l0[j]? = some x → w.cell? (ad.add j) = some (.string x) := fun j x hj => by
    obtain ⟨c, hs, rfl, hcc⟩ := hc j x hj
    have := hcc 0 _ rfl
    rw [show (Kd.string).sz = 1 from rfl, Nat.mul_one, Nat.add_zero] at this
    exact this
   obtain ⟨x0, hx0⟩ : ∃ x, l0[0]? = some x := by
    cases l0 with
    | nil => exact absurd rfl h0
    | cons x l => exact ⟨x, rfl⟩
   have h1 := hcell 0 x0 hx0
   have hlt := World.block_lt_of_cell? w _ h1
   obtain ⟨bk, o, sp⟩ := ad
   obtain rfl : sp = none := spot_none h1
   refine (Try.strings_Join bk o c0 l0 a1 w (fun j x hj => ?_) hlt hb.1 hc0 hb.2).mono ?_
   ·rw [← hcell j x hj]
    by_cases hj0 : j = 0
    ·subst hj0; rfl
    ·simp [Addr.add, hj0]
   ·rintro e w' ⟨rfl, hbl⟩
    exact ⟨rfl, hbl⟩
 ·rw [if_neg hb] at h
  cases h
def noFig (r : Nat) : Bool := decide (r < 48) || decide (57 < r)
theorem may1 (w : World) : PredAt Try.prog 82 #[] encR noFig w := fun W r _ => by
 unfold FnGives
 by_cases h1 : r < 48
 all_goals by_cases h2 : 57 < r
 all_goals
  have z1 : (r : Int) < 48 ↔ r < 48 := by omega
  have z2 : (57 : Int) < (r : Int) ↔ 57 < r := by omega
  go_enter Try.func82, Try.ntmps82
  go_wp2
  all_goals first | (exfalso; omega) | (go_ret; exact ⟨by simp [noFig, h1, h2], 0, rfl⟩)
def isFig (c : UInt8) : Bool := decide (48 ≤ c.toNat) && decide (c.toNat ≤ 57)
theorem fig_idx (s : ByteArray) : ∀ (f pos : Nat), s.size ≤ pos + f → (0 ≤ Lib.idxFuncFrom noFig true s f pos ↔ ∃ j, ∃ h : j < s.size, pos ≤ j ∧ isFig s[j] = false)
 | 0, pos, hf => by
  simp only [Lib.idxFuncFrom]
  constructor
  ·intro h; omega
  ·rintro ⟨j, hj, hp, _⟩; omega
 | f + 1, pos, hf => by
  unfold Lib.idxFuncFrom
  by_cases hp : pos < s.size
  ·rw [if_pos hp]
   by_cases ha : (s[pos]'hp).toNat < 128
   ·rw [decode_ascii s pos hp ha]
    simp only []
    by_cases hg : noFig (s[pos]'hp).toNat = true
    ·rw [if_pos hg]
     constructor
     ·intro _
      refine ⟨pos, hp, Nat.le_refl _, ?_⟩
      unfold noFig at hg
      unfold isFig
      simp at hg ⊢
      omega
     ·intro _; omega
    ·rw [if_neg hg, fig_idx s f (pos + 1) (by omega)]
     constructor
     ·rintro ⟨j, hj, hle, hh⟩
      exact ⟨j, hj, by omega, hh⟩
     ·rintro ⟨j, hj, hle, hh⟩
      by_cases hjp : j = pos
      ·subst hjp
       unfold noFig at hg
       unfold isFig at hh
       simp at hg hh
       omega
      ·exact ⟨j, hj, by omega, hh⟩
   ·have hd := decode_high s pos hp (by omega)
    rw [if_pos (by unfold noFig; simp; omega)]
    constructor
    ·intro _
     refine ⟨pos, hp, Nat.le_refl _, ?_⟩
     unfold isFig
     simp
     omega
    ·intro _; omega
  ·rw [if_neg hp]
   constructor
   ·intro h; omega
   ·rintro ⟨j, hj, hle, _⟩; omega
def allFig (s : ByteArray) : Bool := s.data.toList.all isFig
theorem contains_nofig (s : ByteArray) : decide (0 ≤ Lib.idxFunc noFig true s) = !allFig s := by
 have h := fig_idx s s.size 0 (by omega)
 have e : (∃ j, ∃ h : j < s.size, 0 ≤ j ∧ isFig s[j] = false) ↔ allFig s = false := by
  unfold allFig
  rw [List.all_eq_false]
  constructor
  ·rintro ⟨j, hj, _, hh⟩
   exact ⟨s[j], by rw [Array.mem_toList_iff]; exact Array.getElem_mem hj, by rw [hh]; decide⟩
  ·rintro ⟨x, hx, hh⟩
   rw [Array.mem_toList_iff] at hx
   obtain ⟨j, hj, rfl⟩ := Array.getElem_of_mem hx
   exact ⟨j, hj, Nat.zero_le _, (Bool.not_eq_true _).mp hh⟩
 unfold Lib.idxFunc
 have h2 := h.trans e
 by_cases ha : allFig s = false
 ·rw [decide_eq_true (h2.2 ha), ha]; rfl
 ·rw [decide_eq_false (fun h3 => ha (h2.1 h3)), (Bool.not_eq_false _).mp ha]; rfl
def ContainsFunc_May.f (a0 : ByteArray) : Option Bool := some (!allFig a0)
theorem ContainsFunc_May.calls (a0 : ByteArray) (r : Bool) (w : World) (h : ContainsFunc_May.f a0 = some r) :
  Calls Try.prog 81 #[.string a0, .func (.func 82) #[] #[]] w fun e w' => e = .returned (.bool r) ∧ Below w.heap.size w w' := by
 obtain rfl := Option.some.inj h
 refine (Try.strings_ContainsFunc 82 #[] (enters_of Try.func82 (by kernel_rfl) rfl) noFig a0 w (may1 w)).mono ?_
 rintro e w' ⟨rfl, hb⟩
 exact ⟨by rw [contains_nofig], hb⟩
def runN (p : Int → Bool) (s : ByteArray) : Nat := (s.data.toList.takeWhile fun c => p (c.toNat : Int)).length
theorem runN_at (p : Int → Bool) (s : ByteArray) (k : Nat) (hk : k ≤ s.size) (h : ∀ j, ∀ hj : j < k, p ((s[j]'(by omega)).toNat : Int) = true) (he : ∀ hl : k < s.size, p ((s[k]'hl).toNat : Int) = false) : runN p s = k := by
 unfold runN
 have hl : s.data.toList = s.data.toList.take k ++ s.data.toList.drop k := (List.take_append_drop _ _).symm
 rw [hl, List.takeWhile_append_of_pos]
 ·rw [List.length_append, List.length_take]
  have h0 : (List.takeWhile (fun c : UInt8 => p (c.toNat : Int)) (List.drop k s.data.toList)) = [] := by
   by_cases hlt : k < s.size
   ·rw [List.drop_eq_getElem_cons (by simpa using hlt), List.takeWhile_cons]
    have := he hlt
    rw [if_neg]
    simp only [Array.getElem_toList]
    rw [show s.data[k] = s[k] from rfl, this]
    decide
   ·rw [List.drop_eq_nil_of_le (by simpa using Nat.le_of_not_lt hlt)]
    rfl
  rw [h0]
  have : s.data.toList.length = s.size := by simp
  simp
  omega
 ·intro a ha
  obtain ⟨i, hi, rfl⟩ := List.getElem_of_mem ha
  rw [List.length_take] at hi
  rw [List.getElem_take]
  exact h i (by omega)
set_option maxHeartbeats 1000000 in
theorem run_any (g : Nat) (eg : ∀ args w, (callFunc g args).run Try.prog w = .ok (.enter g args) w) (p : Int → Bool) (hd0 : ∀ c W, Calls Try.prog g #[.int .u8 c] W fun e w' => e = .returned (.bool (p c)) ∧ W = w')
  (s : ByteArray) (hs : s.size ≤ 4611686018427387904) (w : World) :
  Calls Try.prog 85 #[.string s, .func (.func g) #[] #[]] w fun e w' => e = .returned (.int .i64 (runN p s)) ∧ w = w' := by
 have hd := Aside0.mk hd0
 clear hd0
 go_enter Try.func85, Try.ntmps85
 go_wp2
 go_loop [5] (fun t => ∃ k : Nat, k ≤ s.size ∧ t = .int .i64 k ∧ Aside0 (∀ j, ∀ hj : j < k, ∀ hjs : j < s.size, p ((s[j]'hjs).toNat : Int) = true)) (fun t => s.size - (intOf t).toNat)
 case atStart => exact ⟨0, Nat.zero_le _, rfl, ⟨fun j hj => absurd hj (Nat.not_lt_zero _)⟩⟩
 case round =>
  obtain ⟨k, hk, rfl, hp⟩ := hrel
  by_cases hlt : k < s.size
  ·generalize hb : p ((s[k]'hlt).toNat : Int) = b
   have hB := Aside0.mk hb
   clear hb
   cases b
   ·go_wp2_with (go_at_fn g; refine (hd.out _ _).mono ?_; rintro e w' ⟨rfl, rfl⟩; rw [hB.out])
    go_ret
    exact ⟨ret_int (by rw [runN_at p s k hk (fun j hj => hp.out j hj (by omega)) (fun _ => hB.out)]), rfl⟩
   ·go_wp2_with (go_at_fn g; refine (hd.out _ _).mono ?_; rintro e w' ⟨rfl, rfl⟩; rw [hB.out])
    go_round
    case rel => exact ⟨k + 1, by omega, by go_num, ⟨fun j hj hjs => by
     by_cases hjk : j = k
     ·subst hjk; exact hB.out
     ·exact hp.out j (by omega) hjs⟩⟩
    case measure => simp [intOf]; omega
  ·go_wp2
   go_ret
   exact ⟨ret_int (by rw [runN_at p s k hk (fun j hj => hp.out j hj (by omega)) (fun hl => absurd hl hlt)]), rfl⟩
def isD (c : Int) : Bool := decide (48 ≤ c ∧ c ≤ 57)
def isLow (c : Int) : Bool := decide (97 ≤ c ∧ c ≤ 122)
def isUp (c : Int) : Bool := decide (65 ≤ c ∧ c ≤ 90)
set_option maxHeartbeats 400000 in
theorem figure_any (c : Int) (w : World) : Calls Try.prog 87 #[.int .u8 c] w fun e w' => e = .returned (.bool (isD c)) ∧ w = w' := by
 by_cases h1 : 48 ≤ c
 all_goals by_cases h2 : c ≤ 57
 all_goals
  go_enter Try.func87, Try.ntmps87
  go_wp2
  go_ret
  exact ⟨ret_bool (by simp [isD, h1, h2]), rfl⟩
set_option maxHeartbeats 400000 in
theorem small_any (c : Int) (w : World) : Calls Try.prog 84 #[.int .u8 c] w fun e w' => e = .returned (.bool (isLow c)) ∧ w = w' := by
 by_cases h1 : 97 ≤ c
 all_goals by_cases h2 : c ≤ 122
 all_goals
  go_enter Try.func84, Try.ntmps84
  go_wp2
  go_ret
  exact ⟨ret_bool (by simp [isLow, h1, h2]), rfl⟩
set_option maxHeartbeats 400000 in
theorem great_any (c : Int) (w : World) : Calls Try.prog 88 #[.int .u8 c] w fun e w' => e = .returned (.bool (isUp c)) ∧ w = w' := by
 by_cases h1 : 65 ≤ c
 all_goals by_cases h2 : c ≤ 90
 all_goals
  go_enter Try.func88, Try.ntmps88
  go_wp2
  go_ret
  exact ⟨ret_bool (by simp [isUp, h1, h2]), rfl⟩
def isWordC (c : Int) : Bool := isLow c || isD c
def isVerbC (c : Int) : Bool := isLow c || isUp c || isD c
set_option maxHeartbeats 400000 in
theorem first1_any (c : Int) (w : World) : Calls Try.prog 86 #[.int .u8 c] w fun e w' => e = .returned (.bool (isWordC c)) ∧ w = w' := by
 generalize h1 : isLow c = b1
 have H1 := Aside0.mk h1
 clear h1
 cases b1
 all_goals
  go_enter Try.func86, Try.ntmps86
  go_wp2_with (first | (go_at_call 84; refine (small_any _ _).mono ?_; rintro e w' ⟨rfl, rfl⟩; rw [H1.out]) | (go_at_call 87; refine (figure_any _ _).mono ?_; rintro e w' ⟨rfl, rfl⟩))
  go_ret
  exact ⟨ret_bool (by simp [isWordC, H1.out]), rfl⟩
set_option maxHeartbeats 400000 in
theorem first2_any (c : Int) (w : World) : Calls Try.prog 89 #[.int .u8 c] w fun e w' => e = .returned (.bool (isVerbC c)) ∧ w = w' := by
 generalize h1 : isLow c = b1
 generalize h2 : isUp c = b2
 have H1 := Aside0.mk h1
 have H2 := Aside0.mk h2
 clear h1 h2
 cases b1
 all_goals cases b2
 all_goals
  go_enter Try.func89, Try.ntmps89
  go_wp2_with (first | (go_at_call 84; refine (small_any _ _).mono ?_; rintro e w' ⟨rfl, rfl⟩; rw [H1.out]) | (go_at_call 88; refine (great_any _ _).mono ?_; rintro e w' ⟨rfl, rfl⟩; rw [H2.out]) | (go_at_call 87; refine (figure_any _ _).mono ?_; rintro e w' ⟨rfl, rfl⟩))
  go_ret
  exact ⟨ret_bool (by simp [isVerbC, H1.out, H2.out]), rfl⟩
def runO (p : Int → Bool) (s : ByteArray) : Option Int := if s.size ≤ 4611686018427387904 then some (runN p s : Int) else none
theorem runO_spec {p : Int → Bool} {s : ByteArray} {r : Int} (h : runO p s = some r) : s.size ≤ 4611686018427387904 ∧ (runN p s : Int) = r := by
 unfold runO at h
 by_cases hs : s.size ≤ 4611686018427387904
 ·rw [if_pos hs] at h; exact ⟨hs, Option.some.inj h⟩
 ·rw [if_neg hs] at h; cases h
def run_figure.f (a0 : ByteArray) : Option Int := runO isD a0
theorem run_figure.calls (a0 : ByteArray) (r : Int) (w : World) (h : run_figure.f a0 = some r) :
  Calls Try.prog 85 #[.string a0, .func (.func 87) #[] #[]] w fun e w' => e = .returned (.int .i64 r) ∧ Drawn0 w w' := by
 obtain ⟨hs, rfl⟩ := runO_spec h
 refine (run_any 87 (enters_of Try.func87 (by kernel_rfl) rfl) isD figure_any a0 hs w).mono ?_
 rintro e w' ⟨rfl, rfl⟩
 exact ⟨rfl, Drawn0.refl _⟩
def run_word.f (a0 : ByteArray) : Option Int := runO isWordC a0
theorem run_word.calls (a0 : ByteArray) (r : Int) (w : World) (h : run_word.f a0 = some r) :
  Calls Try.prog 85 #[.string a0, .func (.func 86) #[] #[]] w fun e w' => e = .returned (.int .i64 r) ∧ Drawn0 w w' := by
 obtain ⟨hs, rfl⟩ := runO_spec h
 refine (run_any 86 (enters_of Try.func86 (by kernel_rfl) rfl) isWordC first1_any a0 hs w).mono ?_
 rintro e w' ⟨rfl, rfl⟩
 exact ⟨rfl, Drawn0.refl _⟩
def run_verb.f (a0 : ByteArray) : Option Int := runO isVerbC a0
theorem run_verb.calls (a0 : ByteArray) (r : Int) (w : World) (h : run_verb.f a0 = some r) :
  Calls Try.prog 85 #[.string a0, .func (.func 89) #[] #[]] w fun e w' => e = .returned (.int .i64 r) ∧ Drawn0 w w' := by
 obtain ⟨hs, rfl⟩ := runO_spec h
 refine (run_any 89 (enters_of Try.func89 (by kernel_rfl) rfl) isVerbC first2_any a0 hs w).mono ?_
 rintro e w' ⟨rfl, rfl⟩
 exact ⟨rfl, Drawn0.refl _⟩
end Go.Proofs.Ytdelccahgchadaa.P
end
section
namespace Go.Proofs.Ytdelccahgchadaa.P
open Go.RowKit Go.Proofs.Ytdelccahgchadaa Go.Proofs.YtdelccahgchadaaW.PrintWords Go.Proofs.YtdelccahgchadaaW.PrintLast Go.Proofs.YtdelccahgchadaaW.PrintMore
set_option linter.unusedVariables false
def strings_Contains.f (a0 a1 : ByteArray) : Option Bool := match a1.data.toList with | [c] => some (a0.data.toList.contains c) | _ => none
theorem strings_Contains.calls (a0 a1 : ByteArray) (r : Bool) (w : World) (h : strings_Contains.f a0 a1 = some r) :
  Calls Try.prog 83 #[.string a0, .string a1] w fun e w' => e = .returned (.bool r) ∧ Drawn0 w w' := by
 unfold strings_Contains.f at h
 cases hl : a1.data.toList with
 | nil => rw [hl] at h; cases h
 | cons c l =>
  cases l with
  | cons d l => rw [hl] at h; cases h
  | nil =>
   rw [hl] at h
   obtain rfl := Option.some.inj h
   obtain rfl : a1 = ⟨#[c]⟩ := by
    cases a1 with
    | mk d => congr 1; exact Array.toList_inj.1 hl
   refine (Try.strings_Contains_one a0 c w).mono ?_
   rintro e w' ⟨rfl, rfl⟩
   exact ⟨by rw [Lib.contains_iff_indexByte], Drawn0.refl _⟩
end Go.Proofs.Ytdelccahgchadaa.P
end
section
namespace Go.Proofs.Ytdelccahgchadaa.P
open Go.RowKit Go.Proofs.YtdelccahgchadaaW.PrintWords Go.Proofs.YtdelccahgchadaaW.PrintLast Go.Proofs.YtdelccahgchadaaW.PrintMore
attribute [local go_sem] max2_int min2_int max_two min_two max_three min_three max_four min_four   
set_option linter.unusedVariables false
set_option linter.unusedSimpArgs false
mutual
def reredosref08_Few.l0 : Nat → List (S25) → Int → Option (Bool)
 | 0, _, _ => none
 | k + 1, x0, x3 => if x3 < (x0.length : Int) then (reredosref08_Few.j1 k x0 x3 (decide (x3 < 81))) else (reredosref08_Few.j1 k x0 x3 false)
def reredosref08_Few.j1 : Nat → List (S25) → Int → Bool → Option (Bool)
 | 0, _, _, _ => none
 | k + 1, x0, x3, x12 => if x12 = true then (if 0 ≤ x3 then (if x3 < (x0.length : Int) then (if (((rd_T25 x0 x3).f1).size : Int) > 120 then (reredosref08_Few.j2 k x0 x3 true) else (if (((rd_T25 x0 x3).f2).size : Int) > 120 then (reredosref08_Few.j2 k x0 x3 true) else (if (((rd_T25 x0 x3).f3).size : Int) > 120 then (reredosref08_Few.j2 k x0 x3 true) else (reredosref08_Few.j2 k x0 x3 (decide ((((rd_T25 x0 x3).f4).length : Int) > 120)))))) else (none)) else (none)) else (some (decide ((x0.length : Int) ≤ 80)))
def reredosref08_Few.j2 : Nat → List (S25) → Int → Bool → Option (Bool)
 | 0, _, _, _ => none
 | k + 1, x0, x3, x48 => if x48 = true then (some false) else (reredosref08_Few.l1 k x0 x3 0)
def reredosref08_Few.l1 : Nat → List (S25) → Int → Int → Option (Bool)
 | 0, _, _, _ => none
 | k + 1, x0, x3, x4 => if 0 ≤ x3 then (if x3 < (x0.length : Int) then (if x4 < (((rd_T25 x0 x3).f4).length : Int) then (if 0 ≤ x4 then (if ((rdOf ByteArray.empty ((rd_T25 x0 x3).f4) x4).size : Int) > 120 then (some false) else (reredosref08_Few.l1 k x0 x3 (wrap64 (x4 + 1)))) else (none)) else (reredosref08_Few.l0 k x0 (wrap64 (x3 + 1)))) else (none)) else (none)
end
def reredosref08_Few.f (k : Nat) (l0 : List (S25)) : Option (Bool) := reredosref08_Few.l0 k l0 0
theorem reredosref08_Few.mono_l : ∀ k, (∀ y0 y1, LeO (reredosref08_Few.l0 k y0 y1) (reredosref08_Few.l0 (k + 1) y0 y1)) ∧ (∀ y0 y1 y2, LeO (reredosref08_Few.j1 k y0 y1 y2) (reredosref08_Few.j1 (k + 1) y0 y1 y2)) ∧ (∀ y0 y1 y2, LeO (reredosref08_Few.j2 k y0 y1 y2) (reredosref08_Few.j2 (k + 1) y0 y1 y2)) ∧ (∀ y0 y1 y2, LeO (reredosref08_Few.l1 k y0 y1 y2) (reredosref08_Few.l1 (k + 1) y0 y1 y2))
 | 0 => ⟨fun _ _ r h => by simp [reredosref08_Few.l0] at h, fun _ _ _ r h => by simp [reredosref08_Few.j1] at h, fun _ _ _ r h => by simp [reredosref08_Few.j2] at h, fun _ _ _ r h => by simp [reredosref08_Few.l1] at h⟩
 | k + 1 => by
  obtain ⟨ih0, ih1, ih2, ih3⟩ := reredosref08_Few.mono_l k
  refine ⟨?_, ?_, ?_, ?_⟩
  ·intro y0 y1
   unfold reredosref08_Few.l0
   with_reducible repeat' first
   | exact ih0 _ _
   | exact ih1 _ _ _
   | exact ih2 _ _ _
   | exact ih3 _ _ _
   | exact LeO.refl _
   | exact LeO.none _
   | refine LeO.ite ?_ ?_
   | refine LeO.bind ?_ (fun _ => ?_)
  ·intro y0 y1 y2
   unfold reredosref08_Few.j1
   with_reducible repeat' first
   | exact ih0 _ _
   | exact ih1 _ _ _
   | exact ih2 _ _ _
   | exact ih3 _ _ _
   | exact LeO.refl _
   | exact LeO.none _
   | refine LeO.ite ?_ ?_
   | refine LeO.bind ?_ (fun _ => ?_)
  ·intro y0 y1 y2
   unfold reredosref08_Few.j2
   with_reducible repeat' first
   | exact ih0 _ _
   | exact ih1 _ _ _
   | exact ih2 _ _ _
   | exact ih3 _ _ _
   | exact LeO.refl _
   | exact LeO.none _
   | refine LeO.ite ?_ ?_
   | refine LeO.bind ?_ (fun _ => ?_)
  ·intro y0 y1 y2
   unfold reredosref08_Few.l1
   with_reducible repeat' first
   | exact ih0 _ _
   | exact ih1 _ _ _
   | exact ih2 _ _ _
   | exact ih3 _ _ _
   | exact LeO.refl _
   | exact LeO.none _
   | refine LeO.ite ?_ ?_
   | refine LeO.bind ?_ (fun _ => ?_)
theorem reredosref08_Few.mono : ∀ a0 k, LeO (reredosref08_Few.f k a0) (reredosref08_Few.f (k + 1) a0) := by
 intro a0 k
 obtain ⟨ih0, ih1, ih2, ih3⟩ := reredosref08_Few.mono_l k
 unfold reredosref08_Few.f
 with_reducible repeat' first
   | exact ih0 _ _
   | exact ih1 _ _ _
   | exact ih2 _ _ _
   | exact ih3 _ _ _
   | exact LeO.refl _
   | exact LeO.none _
   | refine LeO.ite ?_ ?_
   | refine LeO.bind ?_ (fun _ => ?_)
set_option maxHeartbeats 8000000 in
set_option maxRecDepth 100000 in
theorem reredosref08_Few.calls (k : Nat) (A0 : Option Addr) (c0 : Nat) (l0 : List (S25)) (r : Bool) (w : World) (hr0 : Kd.C k25 w A0 l0.length l0) (hc0 : l0.length ≤ c0) (h : reredosref08_Few.f k l0 = some r) :
  Calls Try.prog 18 #[.slice A0 l0.length c0] w fun e w' => e = .returned (.bool r) ∧ Drawn0 w w' := by
 have HR0 := am hr0
 have HC0 := am hc0
 clear hr0 hc0
 unfold reredosref08_Few.f at h
 have H := h
 clear h
 have H' := am H
 clear H
 go_enter Try.func18, Try.ntmps18
 go_wp2
 go_loopg [3] k (fun kq v3 w' => ∃ (x3_1 : Int), v3 = .int .i64 x3_1 ∧ Aside0 (reredosref08_Few.l0 kq l0 x3_1 = some r) ∧ Aside0 (kq ≤ k) ∧ Drawn0 w w')
 case atStart => exact ⟨(0), yS, H', ⟨Nat.le_refl _⟩, by repeat (first | exact Drawn0.refl _ | apply Drawn0.step)⟩
 case round =>
  clear H'
  try clear c1
  obtain ⟨x3_1, rfl, HA, HK1, ⟨m1, rfl⟩⟩ := hrel
  cases gk with
  | zero => exact absurd HA.out (by simp [reredosref08_Few.l0])
  | succ k1 =>
   have H := HA.out
   clear HA
   simp only [reredosref08_Few.l0] at H
   have HC2 := am H
   clear H
   go_upto_region 2 with (fail)
   go_cut [12] (fun v12 wc => ∃ (kq : Nat) (x12_1 : Bool), v12 = .bool x12_1 ∧ Aside0 (reredosref08_Few.j1 kq l0 x3_1 x12_1 = some r) ∧ Aside0 (kq ≤ k1) ∧ Drawn0 w wc)
   case first =>
    have H := HC2.out
    clear HC2
    by_cases c3 : x3_1 < (l0.length : Int)
    ·rw [if_pos c3] at H
     have c3b0 : decide (x3_1 < (l0.length : Int)) = true := decide_eq_true c3
     clear c3
     (first | rw [c3b0] | (simp only [i64_w, i32_w]; rw [c3b0]) | skip)
     have H' := am H
     clear H
     go_wp2
     go_meet
     case rel => exact ⟨_, (decide (x3_1 < 81)), yS, H', ⟨by have := HK1.out; first | omega | exact Nat.le_refl _⟩, by repeat (first | exact Drawn0.refl _ | apply Drawn0.step)⟩
    ·rw [if_neg c3] at H
     have c3b0 : decide (x3_1 < (l0.length : Int)) = false := decide_eq_false c3
     clear c3
     (first | rw [c3b0] | (simp only [i64_w, i32_w]; rw [c3b0]) | skip)
     have H' := am H
     clear H
     go_wp2
     go_meet
     case rel => exact ⟨_, (false), yS, H', ⟨by have := HK1.out; first | omega | exact Nat.le_refl _⟩, by repeat (first | exact Drawn0.refl _ | apply Drawn0.step)⟩
   case rest =>
    clear HC2
    try clear c1
    try clear p2
    try clear c3
    try clear c3b0
    obtain ⟨kq, x12_1, rfl, HA, HJ1, ⟨mc1, rfl⟩⟩ := hcut
    cases kq with
    | zero => exact absurd HA.out (by simp [reredosref08_Few.j1])
    | succ kj1 =>
     have H := HA.out
     clear HA
     simp only [reredosref08_Few.j1] at H
     by_cases c4 : x12_1 = true
     ·subst c4
      rw [if_pos rfl] at H
      have HC5 := am H
      clear H
      go_upto_region 4 with (fail)
      go_cut [48] (fun v48 wc => ∃ (kq : Nat) (x48_4 : Bool), v48 = .bool x48_4 ∧ Aside0 (reredosref08_Few.j2 kq l0 x3_1 x48_4 = some r) ∧ Aside0 (kq ≤ kj1) ∧ Drawn0 w wc)
      case first =>
       have H := HC5.out
       clear HC5
       by_cases c6 : 0 ≤ x3_1
       ·rw [if_pos c6] at H
        have c6b0 : decide (0 ≤ x3_1) = true := decide_eq_true c6
        clear c6
        (first | rw [c6b0] | (simp only [i64_w, i32_w]; rw [c6b0]) | skip)
        by_cases c7 : x3_1 < (l0.length : Int)
        ·rw [if_pos c7] at H
         have c7b0 : decide (x3_1 < (l0.length : Int)) = true := decide_eq_true c7
         clear c7
         by_cases c8 : (((rd_T25 l0 x3_1).f1).size : Int) > 120
         ·rw [if_pos c8] at H
          have c8b0 : decide (120 < (((rd_T25 l0 x3_1).f1).size : Int)) = true := decide_eq_true c8
          have c8b1 : decide (120 < ((rd_T25 l0 x3_1).f1).size) = true := decide_eq_true (by omega)
          clear c8
          have H' := am H
          clear H
          have p642 : 0 ≤ (x3_1 : Int) := of_decide_eq_true yY
          have q642 : x3_1 < (l0.length : Int) := of_decide_eq_true yY
          obtain ⟨ad642, A642_4, c642_4, e642, hx642_0, hx642_1, hx642_2, hx642_3, hx642_4, hl642_4, hi642_4⟩ := at_T25 HR0.out x3_1 p642 q642
          cases e642
          have HR642_4 := am hi642_4
          have HC642_4 := am hl642_4
          clear hi642_4 hl642_4
          replace p642 := eq_true p642
          replace q642 := eq_true q642
          go_wp2
          go_meet
          case rel => exact ⟨_, (true), yS, H', ⟨by have := HK1.out; have := HJ1.out; first | omega | exact Nat.le_refl _⟩, by repeat (first | exact Drawn0.refl _ | apply Drawn0.step)⟩
         ·rw [if_neg c8] at H
          have c8b0 : decide (120 < (((rd_T25 l0 x3_1).f1).size : Int)) = false := decide_eq_false c8
          have c8b1 : decide (120 < ((rd_T25 l0 x3_1).f1).size) = false := decide_eq_false (by omega)
          clear c8
          by_cases c9 : (((rd_T25 l0 x3_1).f2).size : Int) > 120
          ·rw [if_pos c9] at H
           have c9b0 : decide (120 < (((rd_T25 l0 x3_1).f2).size : Int)) = true := decide_eq_true c9
           have c9b1 : decide (120 < ((rd_T25 l0 x3_1).f2).size) = true := decide_eq_true (by omega)
           clear c9
           have H' := am H
           clear H
           have p642 : 0 ≤ (x3_1 : Int) := of_decide_eq_true yY
           have q642 : x3_1 < (l0.length : Int) := of_decide_eq_true yY
           obtain ⟨ad642, A642_4, c642_4, e642, hx642_0, hx642_1, hx642_2, hx642_3, hx642_4, hl642_4, hi642_4⟩ := at_T25 HR0.out x3_1 p642 q642
           cases e642
           have HR642_4 := am hi642_4
           have HC642_4 := am hl642_4
           clear hi642_4 hl642_4
           replace p642 := eq_true p642
           replace q642 := eq_true q642
           have p643 : 0 ≤ (x3_1 : Int) := of_decide_eq_true yY
           have q643 : x3_1 < (l0.length : Int) := of_decide_eq_true yY
           obtain ⟨ad643, A643_4, c643_4, e643, hx643_0, hx643_1, hx643_2, hx643_3, hx643_4, hl643_4, hi643_4⟩ := at_T25 HR0.out x3_1 p643 q643
           obtain rfl : ad642 = ad643 := (by injection e643)
           have HR643_4 := am hi643_4
           have HC643_4 := am hl643_4
           clear hi643_4 hl643_4
           replace p643 := eq_true p643
           replace q643 := eq_true q643
           have ea_ := Option.some.inj (hx642_4.symm.trans hx643_4)
           injection ea_ with ea_ en_ ec_
           subst ea_
           subst ec_
           clear en_
           go_wp2
           go_meet
           case rel => exact ⟨_, (true), yS, H', ⟨by have := HK1.out; have := HJ1.out; first | omega | exact Nat.le_refl _⟩, by repeat (first | exact Drawn0.refl _ | apply Drawn0.step)⟩
          ·rw [if_neg c9] at H
           have c9b0 : decide (120 < (((rd_T25 l0 x3_1).f2).size : Int)) = false := decide_eq_false c9
           have c9b1 : decide (120 < ((rd_T25 l0 x3_1).f2).size) = false := decide_eq_false (by omega)
           clear c9
           by_cases c10 : (((rd_T25 l0 x3_1).f3).size : Int) > 120
           ·rw [if_pos c10] at H
            have c10b0 : decide (120 < (((rd_T25 l0 x3_1).f3).size : Int)) = true := decide_eq_true c10
            have c10b1 : decide (120 < ((rd_T25 l0 x3_1).f3).size) = true := decide_eq_true (by omega)
            clear c10
            have H' := am H
            clear H
            have p642 : 0 ≤ (x3_1 : Int) := of_decide_eq_true yY
            have q642 : x3_1 < (l0.length : Int) := of_decide_eq_true yY
            obtain ⟨ad642, A642_4, c642_4, e642, hx642_0, hx642_1, hx642_2, hx642_3, hx642_4, hl642_4, hi642_4⟩ := at_T25 HR0.out x3_1 p642 q642
            cases e642
            have HR642_4 := am hi642_4
            have HC642_4 := am hl642_4
            clear hi642_4 hl642_4
            replace p642 := eq_true p642
            replace q642 := eq_true q642
            have p643 : 0 ≤ (x3_1 : Int) := of_decide_eq_true yY
            have q643 : x3_1 < (l0.length : Int) := of_decide_eq_true yY
            obtain ⟨ad643, A643_4, c643_4, e643, hx643_0, hx643_1, hx643_2, hx643_3, hx643_4, hl643_4, hi643_4⟩ := at_T25 HR0.out x3_1 p643 q643
            obtain rfl : ad642 = ad643 := (by injection e643)
            have HR643_4 := am hi643_4
            have HC643_4 := am hl643_4
            clear hi643_4 hl643_4
            replace p643 := eq_true p643
            replace q643 := eq_true q643
            have ea_ := Option.some.inj (hx642_4.symm.trans hx643_4)
            injection ea_ with ea_ en_ ec_
            subst ea_
            subst ec_
            clear en_
            have p644 : 0 ≤ (x3_1 : Int) := of_decide_eq_true yY
            have q644 : x3_1 < (l0.length : Int) := of_decide_eq_true yY
            obtain ⟨ad644, A644_4, c644_4, e644, hx644_0, hx644_1, hx644_2, hx644_3, hx644_4, hl644_4, hi644_4⟩ := at_T25 HR0.out x3_1 p644 q644
            obtain rfl : ad642 = ad644 := (by injection e644)
            have HR644_4 := am hi644_4
            have HC644_4 := am hl644_4
            clear hi644_4 hl644_4
            replace p644 := eq_true p644
            replace q644 := eq_true q644
            have ea_ := Option.some.inj (hx642_4.symm.trans hx644_4)
            injection ea_ with ea_ en_ ec_
            subst ea_
            subst ec_
            clear en_
            go_wp2
            go_meet
            case rel => exact ⟨_, (true), yS, H', ⟨by have := HK1.out; have := HJ1.out; first | omega | exact Nat.le_refl _⟩, by repeat (first | exact Drawn0.refl _ | apply Drawn0.step)⟩
           ·rw [if_neg c10] at H
            have c10b0 : decide (120 < (((rd_T25 l0 x3_1).f3).size : Int)) = false := decide_eq_false c10
            have c10b1 : decide (120 < ((rd_T25 l0 x3_1).f3).size) = false := decide_eq_false (by omega)
            clear c10
            have H' := am H
            clear H
            have p642 : 0 ≤ (x3_1 : Int) := of_decide_eq_true yY
            have q642 : x3_1 < (l0.length : Int) := of_decide_eq_true yY
            obtain ⟨ad642, A642_4, c642_4, e642, hx642_0, hx642_1, hx642_2, hx642_3, hx642_4, hl642_4, hi642_4⟩ := at_T25 HR0.out x3_1 p642 q642
            cases e642
            have HR642_4 := am hi642_4
            have HC642_4 := am hl642_4
            clear hi642_4 hl642_4
            replace p642 := eq_true p642
            replace q642 := eq_true q642
            have p643 : 0 ≤ (x3_1 : Int) := of_decide_eq_true yY
            have q643 : x3_1 < (l0.length : Int) := of_decide_eq_true yY
            obtain ⟨ad643, A643_4, c643_4, e643, hx643_0, hx643_1, hx643_2, hx643_3, hx643_4, hl643_4, hi643_4⟩ := at_T25 HR0.out x3_1 p643 q643
            obtain rfl : ad642 = ad643 := (by injection e643)
            have HR643_4 := am hi643_4
            have HC643_4 := am hl643_4
            clear hi643_4 hl643_4
            replace p643 := eq_true p643
            replace q643 := eq_true q643
            have ea_ := Option.some.inj (hx642_4.symm.trans hx643_4)
            injection ea_ with ea_ en_ ec_
            subst ea_
            subst ec_
            clear en_
            have p644 : 0 ≤ (x3_1 : Int) := of_decide_eq_true yY
            have q644 : x3_1 < (l0.length : Int) := of_decide_eq_true yY
            obtain ⟨ad644, A644_4, c644_4, e644, hx644_0, hx644_1, hx644_2, hx644_3, hx644_4, hl644_4, hi644_4⟩ := at_T25 HR0.out x3_1 p644 q644
            obtain rfl : ad642 = ad644 := (by injection e644)
            have HR644_4 := am hi644_4
            have HC644_4 := am hl644_4
            clear hi644_4 hl644_4
            replace p644 := eq_true p644
            replace q644 := eq_true q644
            have ea_ := Option.some.inj (hx642_4.symm.trans hx644_4)
            injection ea_ with ea_ en_ ec_
            subst ea_
            subst ec_
            clear en_
            have p645 : 0 ≤ (x3_1 : Int) := of_decide_eq_true yY
            have q645 : x3_1 < (l0.length : Int) := of_decide_eq_true yY
            obtain ⟨ad645, A645_4, c645_4, e645, hx645_0, hx645_1, hx645_2, hx645_3, hx645_4, hl645_4, hi645_4⟩ := at_T25 HR0.out x3_1 p645 q645
            obtain rfl : ad642 = ad645 := (by injection e645)
            have HR645_4 := am hi645_4
            have HC645_4 := am hl645_4
            clear hi645_4 hl645_4
            replace p645 := eq_true p645
            replace q645 := eq_true q645
            have ea_ := Option.some.inj (hx642_4.symm.trans hx645_4)
            injection ea_ with ea_ en_ ec_
            subst ea_
            subst ec_
            clear en_
            go_wp2
            go_meet
            case rel => exact ⟨_, (decide ((((rd_T25 l0 x3_1).f4).length : Int) > 120)), yS, H', ⟨by have := HK1.out; have := HJ1.out; first | omega | exact Nat.le_refl _⟩, by repeat (first | exact Drawn0.refl _ | apply Drawn0.step)⟩
        ·rw [if_neg c7] at H
         exact absurd H (by simp)
       ·rw [if_neg c6] at H
        exact absurd H (by simp)
      case rest =>
       clear HC5
       try clear c1
       try clear p2
       try clear c3
       try clear c3b0
       try clear c4
       try clear c6
       try clear c6b0
       try clear p6
       try clear q6
       try clear hx6
       try clear c7
       try clear c7b0
       try clear c8
       try clear c8b0
       try clear c8b1
       try clear c9
       try clear c9b0
       try clear c9b1
       try clear c10
       try clear c10b0
       try clear c10b1
       try clear hx642_0
       try clear hx642_1
       try clear hx642_2
       try clear hx642_3
       try clear hx642_4
       try clear hx643_0
       try clear hx643_1
       try clear hx643_2
       try clear hx643_3
       try clear hx643_4
       try clear hx644_0
       try clear hx644_1
       try clear hx644_2
       try clear hx644_3
       try clear hx644_4
       try clear hx645_0
       try clear hx645_1
       try clear hx645_2
       try clear hx645_3
       try clear hx645_4
       try clear p2
       try clear p642
       try clear p643
       try clear p644
       try clear p645
       try clear q642
       try clear q643
       try clear q644
       try clear q645
       obtain ⟨kq, x48_4, rfl, HA, HJ4, ⟨mc4, rfl⟩⟩ := hcut
       cases kq with
       | zero => exact absurd HA.out (by simp [reredosref08_Few.j2])
       | succ kj4 =>
        have H := HA.out
        clear HA
        simp only [reredosref08_Few.j2] at H
        by_cases c11 : x48_4 = true
        ·subst c11
         rw [if_pos rfl] at H
         obtain rfl := Option.some.inj H
         go_wp2
         go_ret
         exact ⟨yS, by repeat (first | exact Drawn0.refl _ | apply Drawn0.step)⟩
        ·replace c11 := Bool.eq_false_iff.mpr c11
         subst c11
         rw [if_neg (show ¬ (false = true) by decide)] at H
         have H' := am H
         clear H
         go_wp2
         go_loopg [4] kj4 (fun kq v4 w' => ∃ (x4_4 : Int), v4 = .int .i64 x4_4 ∧ Aside0 (reredosref08_Few.l1 kq l0 x3_1 x4_4 = some r) ∧ Aside0 (kq ≤ kj4) ∧ Drawn0 w w')
         case atStart => exact ⟨(0), yS, H', ⟨Nat.le_refl _⟩, by repeat (first | exact Drawn0.refl _ | apply Drawn0.step)⟩
         case round =>
          clear H'
          try clear c1
          try clear p2
          try clear c3
          try clear c3b0
          try clear c4
          try clear c6
          try clear c6b0
          try clear p6
          try clear q6
          try clear hx6
          try clear c7
          try clear c7b0
          try clear c8
          try clear c8b0
          try clear c8b1
          try clear c9
          try clear c9b0
          try clear c9b1
          try clear c10
          try clear c10b0
          try clear c10b1
          try clear c11
          try clear hx642_0
          try clear hx642_1
          try clear hx642_2
          try clear hx642_3
          try clear hx642_4
          try clear hx643_0
          try clear hx643_1
          try clear hx643_2
          try clear hx643_3
          try clear hx643_4
          try clear hx644_0
          try clear hx644_1
          try clear hx644_2
          try clear hx644_3
          try clear hx644_4
          try clear hx645_0
          try clear hx645_1
          try clear hx645_2
          try clear hx645_3
          try clear hx645_4
          try clear p2
          try clear p6
          try clear p642
          try clear p643
          try clear p644
          try clear p645
          try clear q6
          try clear q642
          try clear q643
          try clear q644
          try clear q645
          obtain ⟨x4_4, rfl, HA, HK4, ⟨m4, rfl⟩⟩ := hrel
          cases gk with
          | zero => exact absurd HA.out (by simp [reredosref08_Few.l1])
          | succ k4 =>
           have H := HA.out
           clear HA
           simp only [reredosref08_Few.l1] at H
           by_cases c12 : 0 ≤ x3_1
           ·rw [if_pos c12] at H
            have c12b0 : decide (0 ≤ x3_1) = true := decide_eq_true c12
            clear c12
            by_cases c13 : x3_1 < (l0.length : Int)
            ·rw [if_pos c13] at H
             have c13b0 : decide (x3_1 < (l0.length : Int)) = true := decide_eq_true c13
             clear c13
             by_cases c14 : x4_4 < (((rd_T25 l0 x3_1).f4).length : Int)
             ·rw [if_pos c14] at H
              have c14b0 : decide (x4_4 < (((rd_T25 l0 x3_1).f4).length : Int)) = true := decide_eq_true c14
              clear c14
              by_cases c15 : 0 ≤ x4_4
              ·rw [if_pos c15] at H
               have c15b0 : decide (0 ≤ x4_4) = true := decide_eq_true c15
               clear c15
               by_cases c16 : ((rdOf ByteArray.empty ((rd_T25 l0 x3_1).f4) x4_4).size : Int) > 120
               ·rw [if_pos c16] at H
                have c16b0 : decide (120 < ((rdOf ByteArray.empty ((rd_T25 l0 x3_1).f4) x4_4).size : Int)) = true := decide_eq_true c16
                have c16b1 : decide (120 < (rdOf ByteArray.empty ((rd_T25 l0 x3_1).f4) x4_4).size) = true := decide_eq_true (by omega)
                clear c16
                obtain rfl := Option.some.inj H
                have p646 : 0 ≤ (x3_1 : Int) := of_decide_eq_true yY
                have q646 : x3_1 < (l0.length : Int) := of_decide_eq_true yY
                obtain ⟨ad646, A646_4, c646_4, e646, hx646_0, hx646_1, hx646_2, hx646_3, hx646_4, hl646_4, hi646_4⟩ := at_T25 HR0.out x3_1 p646 q646
                cases e646
                have HR646_4 := am hi646_4
                have HC646_4 := am hl646_4
                clear hi646_4 hl646_4
                replace p646 := eq_true p646
                replace q646 := eq_true q646
                have p647 : 0 ≤ (x3_1 : Int) := of_decide_eq_true yY
                have q647 : x3_1 < (l0.length : Int) := of_decide_eq_true yY
                obtain ⟨ad647, A647_4, c647_4, e647, hx647_0, hx647_1, hx647_2, hx647_3, hx647_4, hl647_4, hi647_4⟩ := at_T25 HR0.out x3_1 p647 q647
                obtain rfl : ad646 = ad647 := (by injection e647)
                have HR647_4 := am hi647_4
                have HC647_4 := am hl647_4
                clear hi647_4 hl647_4
                replace p647 := eq_true p647
                replace q647 := eq_true q647
                have ea_ := Option.some.inj (hx646_4.symm.trans hx647_4)
                injection ea_ with ea_ en_ ec_
                subst ea_
                subst ec_
                clear en_
                have p648 : 0 ≤ (x4_4 : Int) := of_decide_eq_true yY
                have q648 : x4_4 < (((rd_T25 l0 x3_1).f4).length : Int) := of_decide_eq_true yY
                obtain ⟨ad648, e648, hx648_0⟩ := Kd.at_string HR647_4.out x4_4 p648 q648
                cases e648
                replace p648 := eq_true p648
                replace q648 := eq_true q648
                go_wp2
                go_ret
                exact ⟨yS, by repeat (first | exact Drawn0.refl _ | apply Drawn0.step)⟩
               ·rw [if_neg c16] at H
                have c16b0 : decide (120 < ((rdOf ByteArray.empty ((rd_T25 l0 x3_1).f4) x4_4).size : Int)) = false := decide_eq_false c16
                have c16b1 : decide (120 < (rdOf ByteArray.empty ((rd_T25 l0 x3_1).f4) x4_4).size) = false := decide_eq_false (by omega)
                clear c16
                have H' := am H
                clear H
                have p646 : 0 ≤ (x3_1 : Int) := of_decide_eq_true yY
                have q646 : x3_1 < (l0.length : Int) := of_decide_eq_true yY
                obtain ⟨ad646, A646_4, c646_4, e646, hx646_0, hx646_1, hx646_2, hx646_3, hx646_4, hl646_4, hi646_4⟩ := at_T25 HR0.out x3_1 p646 q646
                cases e646
                have HR646_4 := am hi646_4
                have HC646_4 := am hl646_4
                clear hi646_4 hl646_4
                replace p646 := eq_true p646
                replace q646 := eq_true q646
                have p647 : 0 ≤ (x3_1 : Int) := of_decide_eq_true yY
                have q647 : x3_1 < (l0.length : Int) := of_decide_eq_true yY
                obtain ⟨ad647, A647_4, c647_4, e647, hx647_0, hx647_1, hx647_2, hx647_3, hx647_4, hl647_4, hi647_4⟩ := at_T25 HR0.out x3_1 p647 q647
                obtain rfl : ad646 = ad647 := (by injection e647)
                have HR647_4 := am hi647_4
                have HC647_4 := am hl647_4
                clear hi647_4 hl647_4
                replace p647 := eq_true p647
                replace q647 := eq_true q647
                have ea_ := Option.some.inj (hx646_4.symm.trans hx647_4)
                injection ea_ with ea_ en_ ec_
                subst ea_
                subst ec_
                clear en_
                have p648 : 0 ≤ (x4_4 : Int) := of_decide_eq_true yY
                have q648 : x4_4 < (((rd_T25 l0 x3_1).f4).length : Int) := of_decide_eq_true yY
                obtain ⟨ad648, e648, hx648_0⟩ := Kd.at_string HR647_4.out x4_4 p648 q648
                cases e648
                replace p648 := eq_true p648
                replace q648 := eq_true q648
                go_wp2
                go_roundg k4
                case measure => have := HK1.out; have := HJ1.out; have := HJ4.out; have := HK4.out; omega
                case rel => exact ⟨(wrap64 (x4_4 + 1)), yS, H', ⟨by have := HK1.out; have := HJ1.out; have := HJ4.out; have := HK4.out; omega⟩, by repeat (first | exact Drawn0.refl _ | apply Drawn0.step)⟩
              ·rw [if_neg c15] at H
               exact absurd H (by simp)
             ·rw [if_neg c14] at H
              have c14b0 : decide (x4_4 < (((rd_T25 l0 x3_1).f4).length : Int)) = false := decide_eq_false c14
              clear c14
              have H' := am H
              clear H
              have p646 : 0 ≤ (x3_1 : Int) := of_decide_eq_true yY
              have q646 : x3_1 < (l0.length : Int) := of_decide_eq_true yY
              obtain ⟨ad646, A646_4, c646_4, e646, hx646_0, hx646_1, hx646_2, hx646_3, hx646_4, hl646_4, hi646_4⟩ := at_T25 HR0.out x3_1 p646 q646
              cases e646
              have HR646_4 := am hi646_4
              have HC646_4 := am hl646_4
              clear hi646_4 hl646_4
              replace p646 := eq_true p646
              replace q646 := eq_true q646
              go_wp2
              go_roundg k4
              case measure => have := HK1.out; have := HJ1.out; have := HJ4.out; have := HK4.out; omega
              case rel => exact ⟨(wrap64 (x3_1 + 1)), yS, H', ⟨by have := HK1.out; have := HJ1.out; have := HJ4.out; have := HK4.out; omega⟩, by repeat (first | exact Drawn0.refl _ | apply Drawn0.step)⟩
            ·rw [if_neg c13] at H
             exact absurd H (by simp)
           ·rw [if_neg c12] at H
            exact absurd H (by simp)
     ·replace c4 := Bool.eq_false_iff.mpr c4
      subst c4
      rw [if_neg (show ¬ (false = true) by decide)] at H
      obtain rfl := Option.some.inj H
      go_wp2
      go_ret
      exact ⟨yS, by repeat (first | exact Drawn0.refl _ | apply Drawn0.step)⟩
end Go.Proofs.Ytdelccahgchadaa.P
end
section
namespace Go.Proofs.Ytdelccahgchadaa.P
open Go.RowKit Go.Proofs.YtdelccahgchadaaW.PrintWords Go.Proofs.YtdelccahgchadaaW.PrintLast Go.Proofs.YtdelccahgchadaaW.PrintMore
attribute [local go_sem] max2_int min2_int max_two min_two max_three min_three max_four min_four   
set_option linter.unusedVariables false
set_option linter.unusedSimpArgs false
mutual
def tree_Kids.j0 : Nat → Int → Int → ByteArray → ByteArray → ByteArray → List ByteArray → Option (Int)
 | 0, _, _, _, _, _, _ => none
 | k + 1, x3, x541000, x541001, x541002, x541003, x541004 => if x541000 = 1 then (tree_Kids.j1 k x3 x541000 (x541000 == 1)) else (tree_Kids.j1 k x3 x541000 (x541000 == 2))
def tree_Kids.j1 : Nat → Int → Int → Bool → Option (Int)
 | 0, _, _, _ => none
 | k + 1, x3, x8, x9 => if x9 = true then (some 0) else (if x8 = 3 then (some (wrap64 (1 + x3))) else (if x8 = 4 then (some (wrap64 (2 + x3))) else (if x8 = 5 then (tree_Kids.j2 k x8 (x8 == 5)) else (tree_Kids.j2 k x8 (x8 == 7)))))
def tree_Kids.j2 : Nat → Int → Bool → Option (Int)
 | 0, _, _ => none
 | k + 1, x8, x20 => if x20 = true then (some 1) else (if x8 = 6 then (some 2) else (if x8 = 8 then (some 2) else (some (-1))))
end
def tree_Kids.f (k : Nat) (a0_0 : Int) (a0_1 : ByteArray) (a0_2 : ByteArray) (a0_3 : ByteArray) (l0_4 : List ByteArray) : Option (Int) := if a0_1.toList = ([123] : List UInt8) then (tree_Kids.j0 k 1 a0_0 a0_1 a0_2 a0_3 l0_4) else (tree_Kids.j0 k 0 a0_0 a0_1 a0_2 a0_3 l0_4)
theorem tree_Kids.mono_l : ∀ k, (∀ y0 y1 y2 y3 y4 y5, LeO (tree_Kids.j0 k y0 y1 y2 y3 y4 y5) (tree_Kids.j0 (k + 1) y0 y1 y2 y3 y4 y5)) ∧ (∀ y0 y1 y2, LeO (tree_Kids.j1 k y0 y1 y2) (tree_Kids.j1 (k + 1) y0 y1 y2)) ∧ (∀ y0 y1, LeO (tree_Kids.j2 k y0 y1) (tree_Kids.j2 (k + 1) y0 y1))
 | 0 => ⟨fun _ _ _ _ _ _ r h => by simp [tree_Kids.j0] at h, fun _ _ _ r h => by simp [tree_Kids.j1] at h, fun _ _ r h => by simp [tree_Kids.j2] at h⟩
 | k + 1 => by
  obtain ⟨ih0, ih1, ih2⟩ := tree_Kids.mono_l k
  refine ⟨?_, ?_, ?_⟩
  ·intro y0 y1 y2 y3 y4 y5
   unfold tree_Kids.j0
   with_reducible repeat' first
   | exact ih0 _ _ _ _ _ _
   | exact ih1 _ _ _
   | exact ih2 _ _
   | exact LeO.refl _
   | exact LeO.none _
   | refine LeO.ite ?_ ?_
   | refine LeO.bind ?_ (fun _ => ?_)
  ·intro y0 y1 y2
   unfold tree_Kids.j1
   with_reducible repeat' first
   | exact ih0 _ _ _ _ _ _
   | exact ih1 _ _ _
   | exact ih2 _ _
   | exact LeO.refl _
   | exact LeO.none _
   | refine LeO.ite ?_ ?_
   | refine LeO.bind ?_ (fun _ => ?_)
  ·intro y0 y1
   unfold tree_Kids.j2
   with_reducible repeat' first
   | exact ih0 _ _ _ _ _ _
   | exact ih1 _ _ _
   | exact ih2 _ _
   | exact LeO.refl _
   | exact LeO.none _
   | refine LeO.ite ?_ ?_
   | refine LeO.bind ?_ (fun _ => ?_)
theorem tree_Kids.mono : ∀ a0 a1 a2 a3 a4 k, LeO (tree_Kids.f k a0 a1 a2 a3 a4) (tree_Kids.f (k + 1) a0 a1 a2 a3 a4) := by
 intro a0 a1 a2 a3 a4 k
 obtain ⟨ih0, ih1, ih2⟩ := tree_Kids.mono_l k
 unfold tree_Kids.f
 with_reducible repeat' first
   | exact ih0 _ _ _ _ _ _
   | exact ih1 _ _ _
   | exact ih2 _ _
   | exact LeO.refl _
   | exact LeO.none _
   | refine LeO.ite ?_ ?_
   | refine LeO.bind ?_ (fun _ => ?_)
set_option maxHeartbeats 8000000 in
set_option maxRecDepth 100000 in
theorem tree_Kids.calls (k : Nat) (a0_0 : Int) (a0_1 : ByteArray) (a0_2 : ByteArray) (a0_3 : ByteArray) (A0_4 : Option Addr) (c0_4 : Nat) (l0_4 : List ByteArray) (r : Int) (w : World) (hr0_4 : Kd.C Kd.string w A0_4 l0_4.length l0_4) (hc0_4 : l0_4.length ≤ c0_4) (h : tree_Kids.f k a0_0 a0_1 a0_2 a0_3 l0_4 = some r) :
  Calls Try.prog 21 #[.agg #[.int .i64 a0_0, .string a0_1, .string a0_2, .string a0_3, .slice A0_4 l0_4.length c0_4]] w fun e w' => e = .returned (.int .i64 r) ∧ Below w.heap.size w w' := by
 have hu25 := Try.underlying25
 have HR0_4 := am hr0_4
 have HC0_4 := am hc0_4
 clear hr0_4 hc0_4
 have HB := am (Below.refl w.heap.size w)
 unfold tree_Kids.f at h
 have H := h
 clear h
 have HC2 := am H
 clear H
 go_enter Try.func21, Try.ntmps21
 go_upto_if 6 with (first | ((with_reducible refine gD 1 rfl ?_); refine bx 1 #[.int .i64 a0_0, .string a0_1, .string a0_2, .string a0_3, .slice A0_4 l0_4.length c0_4] 25 ?_; intro gb540 hg w3 hbox hb; have BK540 := am hbox; have GW540 := am (geL hg (kL HB)); replace HB := am (below_step (kL HB) hb); have GE540 := GW540; clear hb hbox hg; obtain ⟨hcz4_0, hcz4_1, hcz4_2, hcz4_3, hcz4_4, hfz4_0, hfz4_1, hfz4_2, hfz4_3, hfz4_4⟩ := bk5 BK540.out))
 (try simp only [Act.put, zT, z0, zS])
 go_cut [3] (fun v3 wc => ∃ (kq : Nat) (x3_1 : Int), v3 = .int .i64 x3_1 ∧ Aside0 (tree_Kids.j0 kq x3_1 a0_0 a0_1 a0_2 a0_3 l0_4 = some r) ∧ Aside0 (kq ≤ k) ∧ Aside0 (wc.heap[gb540]? = some (.cells #[.int .i64 a0_0, .string a0_1, .string a0_2, .string a0_3, (.slice A0_4 l0_4.length c0_4)] 25 (0, 0))) ∧ Aside0 (Below w.heap.size w wc))
 case first =>
  have H := HC2.out
  clear HC2
  by_cases c5 : a0_1.toList = ([123] : List UInt8)
  ·rw [if_pos c5] at H
   have c5b0 := eT c5
   have c5b1 := nF c5
   clear c5
   (first | rw [c5b0] | (simp only [i64_w, i32_w]; rw [c5b0]) | skip)
   have H' := am H
   clear H
   go_wp2
   go_meet
   case rel => exact ⟨_, (1), yS, H', ⟨yO⟩, ⟨kB BK540⟩, ⟨(kL HB)⟩⟩
  ·rw [if_neg c5] at H
   have c5b0 := eF c5
   have c5b1 := nT c5
   (first | rw [c5b0] | (simp only [i64_w, i32_w]; rw [c5b0]) | skip)
   have H' := am H
   clear H
   go_wp2
   go_meet
   case rel => exact ⟨_, (0), yS, H', ⟨yO⟩, ⟨kB BK540⟩, ⟨(kL HB)⟩⟩
 case rest =>
  clear HC2
  try clear c2
  try clear p2
  try clear c5
  try clear c5b0
  try clear c5b1
  try clear hcz4_0 hcz4_1 hcz4_2 hcz4_3 hcz4_4 hfz4_0 hfz4_1 hfz4_2 hfz4_3 hfz4_4
  obtain ⟨kq, x3_1, rfl, HA, HJ1, BK540, HB⟩ := hcut
  cases kq with
  | zero => exact absurd HA.out (by simp [tree_Kids.j0])
  | succ kj1 =>
   have H := HA.out
   clear HA
   simp only [tree_Kids.j0] at H
   have HC6 := am H
   clear H
   obtain ⟨hcz7_0, hcz7_1, hcz7_2, hcz7_3, hcz7_4, hfz7_0, hfz7_1, hfz7_2, hfz7_3, hfz7_4⟩ := bk5 BK540.out
   go_upto_if 9 with (fail)
   go_cut [9] (fun v9 wc => ∃ (kq : Nat) (x9_5 : Bool), v9 = .bool x9_5 ∧ Aside0 (tree_Kids.j1 kq x3_1 a0_0 x9_5 = some r) ∧ Aside0 (kq ≤ kj1) ∧ Aside0 (wc.heap[gb540]? = some (.cells #[.int .i64 a0_0, .string a0_1, .string a0_2, .string a0_3, (.slice A0_4 l0_4.length c0_4)] 25 (0, 0))) ∧ Aside0 (Below w.heap.size w wc))
   case first =>
    have H := HC6.out
    clear HC6
    by_cases c8 : a0_0 = 1
    ·rw [if_pos c8] at H
     have c8b0 := eT c8
     have c8b1 := nF c8
     clear c8
     (first | rw [c8b0] | (simp only [i64_w, i32_w]; rw [c8b0]) | skip)
     have H' := am H
     clear H
     go_wp2
     go_meet
     case rel => exact ⟨_, ((a0_0 == 1)), yS, H', ⟨by have := HJ1.out; first | omega | exact Nat.le_refl _⟩, ⟨kB BK540⟩, ⟨(kL HB)⟩⟩
    ·rw [if_neg c8] at H
     have c8b0 := eF c8
     have c8b1 := nT c8
     (first | rw [c8b0] | (simp only [i64_w, i32_w]; rw [c8b0]) | skip)
     have H' := am H
     clear H
     go_wp2
     go_meet
     case rel => exact ⟨_, ((a0_0 == 2)), yS, H', ⟨by have := HJ1.out; first | omega | exact Nat.le_refl _⟩, ⟨kB BK540⟩, ⟨(kL HB)⟩⟩
   case rest =>
    clear HC6
    try clear c2
    try clear p2
    try clear c5
    try clear c5b0
    try clear c5b1
    try clear c8
    try clear c8b0
    try clear c8b1
    try clear hcz4_0 hcz4_1 hcz4_2 hcz4_3 hcz4_4 hfz4_0 hfz4_1 hfz4_2 hfz4_3 hfz4_4
    try clear hcz7_0 hcz7_1 hcz7_2 hcz7_3 hcz7_4 hfz7_0 hfz7_1 hfz7_2 hfz7_3 hfz7_4
    try clear p2
    obtain ⟨kq, x9_5, rfl, HA, HJ5, BK540, HB⟩ := hcut
    cases kq with
    | zero => exact absurd HA.out (by simp [tree_Kids.j1])
    | succ kj5 =>
     have H := HA.out
     clear HA
     simp only [tree_Kids.j1] at H
     by_cases c9 : x9_5 = true
     ·subst c9
      rw [if_pos rfl] at H
      obtain rfl := Option.some.inj H
      go_wp2
      go_ret
      exact ⟨yE, (kL HB)⟩
     ·replace c9 := Bool.eq_false_iff.mpr c9
      subst c9
      rw [if_neg (show ¬ (false = true) by decide)] at H
      by_cases c10 : a0_0 = 3
      ·rw [if_pos c10] at H
       have c10b0 := eT c10
       have c10b1 := nF c10
       clear c10
       obtain rfl := Option.some.inj H
       go_wp2
       go_ret
       exact ⟨yE, (kL HB)⟩
      ·rw [if_neg c10] at H
       have c10b0 := eF c10
       have c10b1 := nT c10
       by_cases c11 : a0_0 = 4
       ·rw [if_pos c11] at H
        have c11b0 := eT c11
        have c11b1 := nF c11
        clear c11
        obtain rfl := Option.some.inj H
        go_wp2
        go_ret
        exact ⟨yE, (kL HB)⟩
       ·rw [if_neg c11] at H
        have c11b0 := eF c11
        have c11b1 := nT c11
        have HC12 := am H
        clear H
        go_upto_if 20 with (fail)
        go_cut [20] (fun v20 wc => ∃ (kq : Nat) (x20_11 : Bool), v20 = .bool x20_11 ∧ Aside0 (tree_Kids.j2 kq a0_0 x20_11 = some r) ∧ Aside0 (kq ≤ kj5) ∧ Aside0 (wc.heap[gb540]? = some (.cells #[.int .i64 a0_0, .string a0_1, .string a0_2, .string a0_3, (.slice A0_4 l0_4.length c0_4)] 25 (0, 0))) ∧ Aside0 (Below w.heap.size w wc))
        case first =>
         have H := HC12.out
         clear HC12
         by_cases c13 : a0_0 = 5
         ·rw [if_pos c13] at H
          have c13b0 := eT c13
          have c13b1 := nF c13
          clear c13
          (first | rw [c13b0] | (simp only [i64_w, i32_w]; rw [c13b0]) | skip)
          have H' := am H
          clear H
          go_wp2
          go_meet
          case rel => exact ⟨_, ((a0_0 == 5)), yS, H', ⟨by have := HJ1.out; have := HJ5.out; first | omega | exact Nat.le_refl _⟩, ⟨kB BK540⟩, ⟨(kL HB)⟩⟩
         ·rw [if_neg c13] at H
          have c13b0 := eF c13
          have c13b1 := nT c13
          (first | rw [c13b0] | (simp only [i64_w, i32_w]; rw [c13b0]) | skip)
          have H' := am H
          clear H
          go_wp2
          go_meet
          case rel => exact ⟨_, ((a0_0 == 7)), yS, H', ⟨by have := HJ1.out; have := HJ5.out; first | omega | exact Nat.le_refl _⟩, ⟨kB BK540⟩, ⟨(kL HB)⟩⟩
        case rest =>
         clear HC12
         try clear c1
         try clear c2
         try clear p2
         try clear c5
         try clear c5b0
         try clear c5b1
         try clear p6
         try clear c8
         try clear c8b0
         try clear c8b1
         try clear c9
         try clear c10
         try clear c10b0
         try clear c10b1
         try clear c11
         try clear c11b0
         try clear c11b1
         try clear c13
         try clear c13b0
         try clear c13b1
         try clear hcz4_0 hcz4_1 hcz4_2 hcz4_3 hcz4_4 hfz4_0 hfz4_1 hfz4_2 hfz4_3 hfz4_4
         try clear hcz7_0 hcz7_1 hcz7_2 hcz7_3 hcz7_4 hfz7_0 hfz7_1 hfz7_2 hfz7_3 hfz7_4
         try clear p2
         obtain ⟨kq, x20_11, rfl, HA, HJ11, BK540, HB⟩ := hcut
         cases kq with
         | zero => exact absurd HA.out (by simp [tree_Kids.j2])
         | succ kj11 =>
          have H := HA.out
          clear HA
          simp only [tree_Kids.j2] at H
          by_cases c14 : x20_11 = true
          ·subst c14
           rw [if_pos rfl] at H
           obtain rfl := Option.some.inj H
           go_wp2
           go_ret
           exact ⟨yE, (kL HB)⟩
          ·replace c14 := Bool.eq_false_iff.mpr c14
           subst c14
           rw [if_neg (show ¬ (false = true) by decide)] at H
           by_cases c15 : a0_0 = 6
           ·rw [if_pos c15] at H
            have c15b0 := eT c15
            have c15b1 := nF c15
            clear c15
            obtain rfl := Option.some.inj H
            go_wp2
            go_ret
            exact ⟨yE, (kL HB)⟩
           ·rw [if_neg c15] at H
            have c15b0 := eF c15
            have c15b1 := nT c15
            by_cases c16 : a0_0 = 8
            ·rw [if_pos c16] at H
             have c16b0 := eT c16
             have c16b1 := nF c16
             clear c16
             obtain rfl := Option.some.inj H
             go_wp2
             go_ret
             exact ⟨yE, (kL HB)⟩
            ·rw [if_neg c16] at H
             have c16b0 := eF c16
             have c16b1 := nT c16
             obtain rfl := Option.some.inj H
             go_wp2
             go_ret
             exact ⟨yE, (kL HB)⟩
end Go.Proofs.Ytdelccahgchadaa.P
end
section
namespace Go.Proofs.Ytdelccahgchadaa.P
open Go.RowKit Go.Proofs.YtdelccahgchadaaW.PrintWords Go.Proofs.YtdelccahgchadaaW.PrintLast Go.Proofs.YtdelccahgchadaaW.PrintMore
attribute [local go_sem] max2_int min2_int max_two min_two max_three min_three max_four min_four   
set_option linter.unusedVariables false
set_option linter.unusedSimpArgs false
def tree_End.l0 : Nat → List (S25) → Int → Int → Option (Int × Bool)
 | 0, _, _, _ => none
 | k + 1, x0, x1, x6 => if x6 > 0 then (if x1 < 0 then (some (0, false)) else (if x1 ≥ (x0.length : Int) then (some (0, false)) else (if 0 ≤ x1 then (if x1 < (x0.length : Int) then ((tree_Kids.f k ((rd_T25 x0 x1).f0) ((rd_T25 x0 x1).f1) ((rd_T25 x0 x1).f2) ((rd_T25 x0 x1).f3) ((rd_T25 x0 x1).f4)).bind fun t542 => (if t542 < 0 then (some (0, false)) else ((tree_Kids.f k ((rd_T25 x0 x1).f0) ((rd_T25 x0 x1).f1) ((rd_T25 x0 x1).f2) ((rd_T25 x0 x1).f3) ((rd_T25 x0 x1).f4)).bind fun t544 => (tree_End.l0 k x0 (wrap64 (x1 + 1)) (wrap64 ((wrap64 (x6 + t544)) - 1)))))) else (none)) else (none)))) else (some (x1, true))
def tree_End.f (k : Nat) (l0 : List (S25)) (a1 : Int) : Option (Int × Bool) := tree_End.l0 k l0 a1 1
theorem tree_End.mono_l : ∀ k, (∀ y0 y1 y2, LeO (tree_End.l0 k y0 y1 y2) (tree_End.l0 (k + 1) y0 y1 y2))
 | 0 => fun _ _ _ r h => by simp [tree_End.l0] at h
 | k + 1 => by
  have ih0 := tree_End.mono_l k
  ·intro y0 y1 y2
   unfold tree_End.l0
   with_reducible repeat' first
   | exact ih0 _ _ _
   | exact tree_Kids.mono _ _ _ _ _ _
   | exact LeO.refl _
   | exact LeO.none _
   | refine LeO.ite ?_ ?_
   | refine LeO.bind ?_ (fun _ => ?_)
theorem tree_End.mono : ∀ a0 a1 k, LeO (tree_End.f k a0 a1) (tree_End.f (k + 1) a0 a1) := by
 intro a0 a1 k
 have ih0 := tree_End.mono_l k
 unfold tree_End.f
 with_reducible repeat' first
   | exact ih0 _ _ _
   | exact tree_Kids.mono _ _ _ _ _ _
   | exact LeO.refl _
   | exact LeO.none _
   | refine LeO.ite ?_ ?_
   | refine LeO.bind ?_ (fun _ => ?_)
set_option maxHeartbeats 8000000 in
set_option maxRecDepth 100000 in
theorem tree_End.calls (k : Nat) (A0 : Option Addr) (c0 : Nat) (l0 : List (S25)) (a1 : Int) (r1 : Int) (r2 : Bool) (w : World) (hr0 : Kd.C k25 w A0 l0.length l0) (hc0 : l0.length ≤ c0) (h : tree_End.f k l0 a1 = some (r1, r2)) :
  Calls Try.prog 19 #[.slice A0 l0.length c0, .int .i64 a1] w fun e w' => e = .returned (.tuple #[.int .i64 r1, .bool r2]) ∧ Below w.heap.size w w' := by
 have hu25 := Try.underlying25
 have HR0 := am hr0
 have HC0 := am hc0
 clear hr0 hc0
 have HB := am (Below.refl w.heap.size w)
 unfold tree_End.f at h
 have H := h
 clear h
 have H' := am H
 clear H
 go_enter Try.func19, Try.ntmps19
 go_wp2
 go_loopg [1, 6] k (fun kq v1 v6 w' => ∃ (x1_1 : Int) (x6_1 : Int), v1 = .int .i64 x1_1 ∧ v6 = .int .i64 x6_1 ∧ Aside0 (tree_End.l0 kq l0 x1_1 x6_1 = some (r1, r2)) ∧ Aside0 (kq ≤ k) ∧ Aside0 (Below w.heap.size w w'))
 case atStart => exact ⟨(a1), (1), yS, yS, H', ⟨Nat.le_refl _⟩, ⟨(kL HB)⟩⟩
 case round =>
  clear H'
  try clear c1
  try clear p2
  obtain ⟨x1_1, x6_1, rfl, rfl, HA, HK1, HB⟩ := hrel
  cases gk with
  | zero => exact absurd HA.out (by simp [tree_End.l0])
  | succ k1 =>
   have H := HA.out
   clear HA
   simp only [tree_End.l0] at H
   by_cases c3 : x6_1 > 0
   ·rw [if_pos c3] at H
    have c3b0 : decide (0 < x6_1) = true := decide_eq_true c3
    clear c3
    by_cases c4 : x1_1 < 0
    ·rw [if_pos c4] at H
     have c4b0 : decide (x1_1 < 0) = true := decide_eq_true c4
     clear c4
     simp only [Option.some.injEq, Prod.mk.injEq] at H
     obtain ⟨rfl, rfl⟩ := H
     go_wp2
     go_ret2
     exact ⟨yE, (kL HB)⟩
    ·rw [if_neg c4] at H
     have c4b0 : decide (x1_1 < 0) = false := decide_eq_false c4
     clear c4
     by_cases c5 : x1_1 ≥ (l0.length : Int)
     ·rw [if_pos c5] at H
      have c5b0 : decide ((l0.length : Int) ≤ x1_1) = true := decide_eq_true c5
      clear c5
      simp only [Option.some.injEq, Prod.mk.injEq] at H
      obtain ⟨rfl, rfl⟩ := H
      go_wp2
      go_ret2
      exact ⟨yE, (kL HB)⟩
     ·rw [if_neg c5] at H
      have c5b0 : decide ((l0.length : Int) ≤ x1_1) = false := decide_eq_false c5
      clear c5
      by_cases c6 : 0 ≤ x1_1
      ·rw [if_pos c6] at H
       have c6b0 : decide (0 ≤ x1_1) = true := decide_eq_true c6
       clear c6
       by_cases c7 : x1_1 < (l0.length : Int)
       ·rw [if_pos c7] at H
        have c7b0 : decide (x1_1 < (l0.length : Int)) = true := decide_eq_true c7
        clear c7
        obtain ⟨t542, A8, H⟩ := bO H
        try dsimp only at H
        by_cases c9 : t542 < 0
        ·rw [if_pos c9] at H
         have c9b0 : decide (t542 < 0) = true := decide_eq_true c9
         clear c9
         simp only [Option.some.injEq, Prod.mk.injEq] at H
         obtain ⟨rfl, rfl⟩ := H
         have p541 : 0 ≤ (x1_1 : Int) := of_decide_eq_true yY
         have q541 : x1_1 < (l0.length : Int) := of_decide_eq_true yY
         obtain ⟨ad541, A541_4, c541_4, e541, hx541_0, hx541_1, hx541_2, hx541_3, hx541_4, hl541_4, hi541_4⟩ := at_T25 HR0.out x1_1 p541 q541
         cases e541
         replace hx541_0 := (HB.out.cell (World.block_lt_of_cell? w _ hx541_0)).trans hx541_0
         replace hx541_1 := (HB.out.cell (World.block_lt_of_cell? w _ hx541_1)).trans hx541_1
         replace hx541_2 := (HB.out.cell (World.block_lt_of_cell? w _ hx541_2)).trans hx541_2
         replace hx541_3 := (HB.out.cell (World.block_lt_of_cell? w _ hx541_3)).trans hx541_3
         replace hx541_4 := (HB.out.cell (World.block_lt_of_cell? w _ hx541_4)).trans hx541_4
         have HR541_4 := am hi541_4
         have HC541_4 := am hl541_4
         clear hi541_4 hl541_4
         replace p541 := eq_true p541
         replace q541 := eq_true q541
         go_wp2_with (go_at_call 21; (with_reducible refine (tree_Kids.calls _ _ _ _ _ _ _ _ _ _ ?side1 ?side2 A8.out).mono ?_); (case side1 => exact Kd.C_below HR541_4.out (kL HB)); (case side2 => exact HC541_4.out); rintro e w10 ⟨rfl, hb⟩; replace HB := am (below_step (kL HB) hb); (try clear hb))
         go_ret2
         exact ⟨yE, (kL HB)⟩
        ·rw [if_neg c9] at H
         have c9b0 : decide (t542 < 0) = false := decide_eq_false c9
         clear c9
         obtain ⟨t544, A11, H⟩ := bO H
         try dsimp only at H
         have H' := am H
         clear H
         have p541 : 0 ≤ (x1_1 : Int) := of_decide_eq_true yY
         have q541 : x1_1 < (l0.length : Int) := of_decide_eq_true yY
         obtain ⟨ad541, A541_4, c541_4, e541, hx541_0, hx541_1, hx541_2, hx541_3, hx541_4, hl541_4, hi541_4⟩ := at_T25 HR0.out x1_1 p541 q541
         cases e541
         replace hx541_0 := (HB.out.cell (World.block_lt_of_cell? w _ hx541_0)).trans hx541_0
         replace hx541_1 := (HB.out.cell (World.block_lt_of_cell? w _ hx541_1)).trans hx541_1
         replace hx541_2 := (HB.out.cell (World.block_lt_of_cell? w _ hx541_2)).trans hx541_2
         replace hx541_3 := (HB.out.cell (World.block_lt_of_cell? w _ hx541_3)).trans hx541_3
         replace hx541_4 := (HB.out.cell (World.block_lt_of_cell? w _ hx541_4)).trans hx541_4
         have HR541_4 := am hi541_4
         have HC541_4 := am hl541_4
         clear hi541_4 hl541_4
         replace p541 := eq_true p541
         replace q541 := eq_true q541
         go_wp2_with (first | (go_at_call 21; (with_reducible refine (tree_Kids.calls _ _ _ _ _ _ _ _ _ _ ?side1 ?side2 A8.out).mono ?_); (case side1 => exact Kd.C_below HR541_4.out (kL HB)); (case side2 => exact HC541_4.out); rintro e w12 ⟨rfl, hb⟩; replace HB := am (below_step (kL HB) hb); (try clear hb); have p543 : 0 ≤ (x1_1 : Int) := of_decide_eq_true yY; have q543 : x1_1 < (l0.length : Int) := of_decide_eq_true yY; obtain ⟨ad543, A543_4, c543_4, e543, hx543_0, hx543_1, hx543_2, hx543_3, hx543_4, hl543_4, hi543_4⟩ := at_T25 HR0.out x1_1 p543 q543; obtain rfl : ad541 = ad543 := (by injection e543); replace hx543_0 := (HB.out.cell (World.block_lt_of_cell? w _ hx543_0)).trans hx543_0; replace hx543_1 := (HB.out.cell (World.block_lt_of_cell? w _ hx543_1)).trans hx543_1; replace hx543_2 := (HB.out.cell (World.block_lt_of_cell? w _ hx543_2)).trans hx543_2; replace hx543_3 := (HB.out.cell (World.block_lt_of_cell? w _ hx543_3)).trans hx543_3; replace hx543_4 := (HB.out.cell (World.block_lt_of_cell? w _ hx543_4)).trans hx543_4; have HR543_4 := am hi543_4; have HC543_4 := am hl543_4; clear hi543_4 hl543_4; replace p543 := eq_true p543; replace q543 := eq_true q543) | ((with_reducible refine gC 21 rfl ?_); refine gL (some 32) Try.func21 #[.agg #[.int .i64 ((rd_T25 l0 x1_1).f0), .string ((rd_T25 l0 x1_1).f1), .string ((rd_T25 l0 x1_1).f2), .string ((rd_T25 l0 x1_1).f3), .slice A543_4 ((rd_T25 l0 x1_1).f4).length c543_4]] ?_; (with_reducible refine (tree_Kids.calls _ _ _ _ _ _ _ _ _ _ ?side1 ?side2 A11.out).mono ?_); (case side1 => exact Kd.C_below HR543_4.out (kL HB)); (case side2 => exact HC543_4.out); rintro e w13 ⟨rfl, hb⟩; refine ⟨_, rfl, ?_⟩; replace HB := am (below_step (kL HB) hb); (try clear hb)))
         go_roundg k1
         case measure => have := HK1.out; omega
         case rel => exact ⟨(wrap64 (x1_1 + 1)), (wrap64 ((wrap64 (x6_1 + t544)) - 1)), yS, yS, H', ⟨by have := HK1.out; omega⟩, ⟨(kL HB)⟩⟩
       ·rw [if_neg c7] at H
        exact absurd H (by simp)
      ·rw [if_neg c6] at H
       exact absurd H (by simp)
   ·rw [if_neg c3] at H
    have c3b0 : decide (0 < x6_1) = false := decide_eq_false c3
    clear c3
    simp only [Option.some.injEq, Prod.mk.injEq] at H
    obtain ⟨rfl, rfl⟩ := H
    go_wp2
    go_ret2
    exact ⟨yE, (kL HB)⟩
end Go.Proofs.Ytdelccahgchadaa.P
end
section
namespace Go.Proofs.Ytdelccahgchadaa.P
open Go.RowKit Go.Proofs.YtdelccahgchadaaW.PrintWords Go.Proofs.YtdelccahgchadaaW.PrintLast Go.Proofs.YtdelccahgchadaaW.PrintMore
attribute [local go_sem] max2_int min2_int max_two min_two max_three min_three max_four min_four   
set_option linter.unusedVariables false
set_option linter.unusedSimpArgs false
mutual
def tree_Depth.l0 : Nat → Int → List Int → List (S25) → Int → Int → Option (Int)
 | 0, _, _, _, _, _ => none
 | k + 1, x5, x6, x16, x17, x18 => if x18 < x17 then (if 0 ≤ x18 then (if x18 < (x16.length : Int) then ((tree_Kids.f k ((rd_T25 x16 x18).f0) ((rd_T25 x16 x18).f1) ((rd_T25 x16 x18).f2) ((rd_T25 x16 x18).f3) ((rd_T25 x16 x18).f4)).bind fun t558 => (if x6.length < 17592186044416 then ((some (x6 ++ [t558] : List Int)).bind fun y559 => (tree_Depth.l1 k (mx x5 (y559.length : Int)) y559 x16 x17 x18)) else (none))) else (none)) else (none)) else (some x5)
def tree_Depth.l1 : Nat → Int → List Int → List (S25) → Int → Int → Option (Int)
 | 0, _, _, _, _, _ => none
 | k + 1, x5, x6, x16, x17, x18 => if (x6.length : Int) > 0 then (if 0 ≤ (wrap64 ((x6.length : Int) - 1)) then (if (wrap64 ((x6.length : Int) - 1)) < (x6.length : Int) then (tree_Depth.j2 k x5 x6 x16 x17 x18 ((rd x6 (wrap64 ((x6.length : Int) - 1))) == 0)) else (none)) else (none)) else (tree_Depth.j2 k x5 x6 x16 x17 x18 false)
def tree_Depth.j2 : Nat → Int → List Int → List (S25) → Int → Int → Bool → Option (Int)
 | 0, _, _, _, _, _, _ => none
 | k + 1, x5, x6, x16, x17, x18, x42 => if x42 = true then (if 0 ≤ (wrap64 ((x6.length : Int) - 1)) then (if (wrap64 ((x6.length : Int) - 1)) ≤ (x6.length : Int) then ((some (x6.take ((wrap64 ((x6.length : Int) - 1)) : Int).toNat : List Int)).bind fun y563 => (if (y563.length : Int) > 0 then (if 0 ≤ (wrap64 ((y563.length : Int) - 1)) then (if (wrap64 ((y563.length : Int) - 1)) < (y563.length : Int) then (tree_Depth.l1 k x5 (y563.set ((wrap64 ((y563.length : Int) - 1)) : Int).toNat (wrap64 ((rd y563 (wrap64 ((y563.length : Int) - 1))) - 1))) x16 x17 x18) else (none)) else (none)) else (tree_Depth.l1 k x5 y563 x16 x17 x18))) else (none)) else (none)) else (if (x6.length : Int) = 0 then (some x5) else (tree_Depth.l0 k x5 x6 x16 x17 (wrap64 (x18 + 1))))
end
def tree_Depth.f (k : Nat) (l0 : List (S25)) : Option (Int) := (tree_End.f k l0 0).bind fun bt554 => (if bt554.2 = true then (tree_Depth.l0 k 0 ([] : List Int) l0 (l0.length : Int) 0) else (some 0))
theorem tree_Depth.mono_l : ∀ k, (∀ y0 y1 y2 y3 y4, LeO (tree_Depth.l0 k y0 y1 y2 y3 y4) (tree_Depth.l0 (k + 1) y0 y1 y2 y3 y4)) ∧ (∀ y0 y1 y2 y3 y4, LeO (tree_Depth.l1 k y0 y1 y2 y3 y4) (tree_Depth.l1 (k + 1) y0 y1 y2 y3 y4)) ∧ (∀ y0 y1 y2 y3 y4 y5, LeO (tree_Depth.j2 k y0 y1 y2 y3 y4 y5) (tree_Depth.j2 (k + 1) y0 y1 y2 y3 y4 y5))
 | 0 => ⟨fun _ _ _ _ _ r h => by simp [tree_Depth.l0] at h, fun _ _ _ _ _ r h => by simp [tree_Depth.l1] at h, fun _ _ _ _ _ _ r h => by simp [tree_Depth.j2] at h⟩
 | k + 1 => by
  obtain ⟨ih0, ih1, ih2⟩ := tree_Depth.mono_l k
  refine ⟨?_, ?_, ?_⟩
  ·intro y0 y1 y2 y3 y4
   unfold tree_Depth.l0
   with_reducible repeat' first
   | exact ih0 _ _ _ _ _
   | exact ih1 _ _ _ _ _
   | exact ih2 _ _ _ _ _ _
   | exact tree_End.mono _ _ _
   | exact tree_Kids.mono _ _ _ _ _ _
   | exact LeO.refl _
   | exact LeO.none _
   | refine LeO.ite ?_ ?_
   | refine LeO.bind ?_ (fun _ => ?_)
  ·intro y0 y1 y2 y3 y4
   unfold tree_Depth.l1
   with_reducible repeat' first
   | exact ih0 _ _ _ _ _
   | exact ih1 _ _ _ _ _
   | exact ih2 _ _ _ _ _ _
   | exact tree_End.mono _ _ _
   | exact tree_Kids.mono _ _ _ _ _ _
   | exact LeO.refl _
   | exact LeO.none _
   | refine LeO.ite ?_ ?_
   | refine LeO.bind ?_ (fun _ => ?_)
  ·intro y0 y1 y2 y3 y4 y5
   unfold tree_Depth.j2
   with_reducible repeat' first
   | exact ih0 _ _ _ _ _
   | exact ih1 _ _ _ _ _
   | exact ih2 _ _ _ _ _ _
   | exact tree_End.mono _ _ _
   | exact tree_Kids.mono _ _ _ _ _ _
   | exact LeO.refl _
   | exact LeO.none _
   | refine LeO.ite ?_ ?_
   | refine LeO.bind ?_ (fun _ => ?_)
theorem tree_Depth.mono : ∀ a0 k, LeO (tree_Depth.f k a0) (tree_Depth.f (k + 1) a0) := by
 intro a0 k
 obtain ⟨ih0, ih1, ih2⟩ := tree_Depth.mono_l k
 unfold tree_Depth.f
 with_reducible repeat' first
   | exact ih0 _ _ _ _ _
   | exact ih1 _ _ _ _ _
   | exact ih2 _ _ _ _ _ _
   | exact tree_End.mono _ _ _
   | exact tree_Kids.mono _ _ _ _ _ _
   | exact LeO.refl _
   | exact LeO.none _
   | refine LeO.ite ?_ ?_
   | refine LeO.bind ?_ (fun _ => ?_)
set_option maxHeartbeats 8000000 in
set_option maxRecDepth 100000 in
theorem tree_Depth.calls (k : Nat) (A0 : Option Addr) (c0 : Nat) (l0 : List (S25)) (r : Int) (w : World) (hr0 : Kd.C k25 w A0 l0.length l0) (hc0 : l0.length ≤ c0) (h : tree_Depth.f k l0 = some r) :
  Calls Try.prog 26 #[.slice A0 l0.length c0] w fun e w' => e = .returned (.int .i64 r) ∧ Below w.heap.size w w' := by
 have hu25 := Try.underlying25
 have HR0 := am hr0
 have HC0 := am hc0
 clear hr0 hc0
 have HB := am (Below.refl w.heap.size w)
 unfold tree_Depth.f at h
 have H := h
 clear h
 obtain ⟨⟨t554, t555⟩, A2, H⟩ := bO H
 try dsimp only at H
 by_cases c3 : t555 = true
 ·subst c3
  rw [if_pos rfl] at H
  have H' := am H
  clear H
  go_enter Try.func26, Try.ntmps26
  go_wp2_with ((with_reducible refine gC 19 rfl ?_); refine gL (some 11) Try.func19 #[.slice A0 l0.length c0, .int .i64 0] ?_; (with_reducible refine (tree_End.calls _ _ _ _ _ _ _ _ ?side1 ?side2 A2.out).mono ?_); (case side1 => repeat (first | exact HR0.out | (with_reducible refine Kd.C_alloc ?_ _) | (with_reducible refine Kd.C_drewN ?_ _) | (with_reducible refine Kd.C_drew ?_))); (case side2 => exact HC0.out); rintro e w4 ⟨rfl, hb⟩; refine ⟨_, rfl, ?_⟩; replace HB := am (below_step (kL HB) hb); (try clear hb))
  go_loopg [5, 6, 18] k (fun kq v5 v6 v18 w' => ∃ (x5_1 : Int) (x6_1 : List Int) (x18_1 : Int), v5 = .int .i64 x5_1 ∧ v18 = .int .i64 x18_1 ∧ Aside0 (tree_Depth.l0 kq x5_1 x6_1 l0 (l0.length : Int) x18_1 = some r) ∧ Aside0 (kq ≤ k) ∧ Aside0 (Kd.R (Kd.int .i64) 3 w' w.heap.size (fun _ => True) v6 x6_1) ∧ Aside0 (Below w.heap.size w w'))
  case atStart => exact ⟨(0), (([] : List Int)), (0), yS, yS, H', ⟨Nat.le_refl _⟩, ⟨by first | exact Kd.R_nil _ _ _ _ _ | exact Kd.N_nil _ _ _ _ _ | exact Kd.V_nil _ _ _ _ _ | exact Kd.Q_nil _ _ _ _ _ | exact Kd.S_nil _ _ _ _ _⟩, ⟨(kL HB)⟩⟩
  case round =>
   clear H'
   try clear c1
   try clear c2
   try clear p2
   try clear c3
   obtain ⟨x5_1, x6_1, x18_1, rfl, rfl, HA, HK1, HO_6, HB⟩ := hrel
   cases gk with
   | zero => exact absurd HA.out (by simp [tree_Depth.l0])
   | succ k1 =>
    have H := HA.out
    clear HA
    simp only [tree_Depth.l0] at H
    by_cases c5 : x18_1 < (l0.length : Int)
    ·rw [if_pos c5] at H
     have c5b0 : decide (x18_1 < (l0.length : Int)) = true := decide_eq_true c5
     clear c5
     by_cases c6 : 0 ≤ x18_1
     ·rw [if_pos c6] at H
      have c6b0 : decide (0 ≤ x18_1) = true := decide_eq_true c6
      clear c6
      by_cases c7 : x18_1 < (l0.length : Int)
      ·rw [if_pos c7] at H
       have c7b0 : decide (x18_1 < (l0.length : Int)) = true := decide_eq_true c7
       clear c7
       obtain ⟨t558, A8, H⟩ := bO H
       try dsimp only at H
       by_cases c9 : x6_1.length < 17592186044416
       ·rw [if_pos c9] at H
        have LMc9 := am c9
        clear c9
        obtain ⟨y559, hy559⟩ : ∃ y_ : List Int, y_ = (x6_1 ++ [t558]) := ⟨_, rfl⟩
        replace H : (tree_Depth.l1 k1 (mx x5_1 (y559.length : Int)) y559 l0 (l0.length : Int) x18_1) = some r := by first | (rw [hy559]; with_reducible exact H) | (have H2_ := (Option.bind_some _ _).symm.trans H; rw [hy559]; with_reducible exact H2_) | (have H2_ := (Option.bind_some _ _).symm.trans H; with_reducible exact H2_) | with_reducible exact H | (rw [hy559]; exact H) | exact H
        have Ny559 := am hy559
        clear hy559
        obtain ⟨ji10, hji10⟩ : ∃ j_ : Int, (mx x5_1 (y559.length : Int)) = j_ := ⟨_, rfl⟩
        replace H : (tree_Depth.l1 k1 ji10 y559 l0 (l0.length : Int) x18_1) = some r := by first | (rw [hji10] at H; exact H) | (simp only [hji10] at H ⊢; exact H)
        (try rw [hji10] at A8)
        have hji10_ : (if x5_1 < (y559.length : Int) then (y559.length : Int) else x5_1) = ji10 := hji10
        have H' := am H
        clear H
        have p556 : 0 ≤ (x18_1 : Int) := of_decide_eq_true yY
        have q556 : x18_1 < (l0.length : Int) := of_decide_eq_true yY
        obtain ⟨ad556, A556_4, c556_4, e556, hx556_0, hx556_1, hx556_2, hx556_3, hx556_4, hl556_4, hi556_4⟩ := at_T25 HR0.out x18_1 p556 q556
        cases e556
        replace hx556_0 := (HB.out.cell (World.block_lt_of_cell? w _ hx556_0)).trans hx556_0
        replace hx556_1 := (HB.out.cell (World.block_lt_of_cell? w _ hx556_1)).trans hx556_1
        replace hx556_2 := (HB.out.cell (World.block_lt_of_cell? w _ hx556_2)).trans hx556_2
        replace hx556_3 := (HB.out.cell (World.block_lt_of_cell? w _ hx556_3)).trans hx556_3
        replace hx556_4 := (HB.out.cell (World.block_lt_of_cell? w _ hx556_4)).trans hx556_4
        have HR556_4 := am hi556_4
        have HC556_4 := am hl556_4
        clear hi556_4 hl556_4
        replace p556 := eq_true p556
        replace q556 := eq_true q556
        go_wp2_with (first | ((with_reducible refine gD 8 rfl ?_); (try (refine gate_guard (by rfl) ?_; dsimp only)); refine bx 8 #[.int .i64 0, .string (⟨#[]⟩ : ByteArray), .string (⟨#[]⟩ : ByteArray), .string (⟨#[]⟩ : ByteArray), .slice none 0 0] 25 ?_; intro gb557 hg w11 hbox hb; replace HO_6 := am (Kd.R_below (rB HO_6) hb); have BK557 := am hbox; have GW557 := am (geL hg (kL HB)); replace HB := am (below_step (kL HB) hb); have GE557 := GW557; clear hb hbox hg; obtain ⟨hcz12_0, hcz12_1, hcz12_2, hcz12_3, hcz12_4, hfz12_0, hfz12_1, hfz12_2, hfz12_3, hfz12_4⟩ := bk5 BK557.out) | ((with_reducible refine gC 21 rfl ?_); refine gL (some 24) Try.func21 #[.agg #[.int .i64 ((rd_T25 l0 x18_1).f0), .string ((rd_T25 l0 x18_1).f1), .string ((rd_T25 l0 x18_1).f2), .string ((rd_T25 l0 x18_1).f3), .slice A556_4 ((rd_T25 l0 x18_1).f4).length c556_4]] ?_; (with_reducible refine (tree_Kids.calls _ _ _ _ _ _ _ _ _ _ ?side1 ?side2 A8.out).mono ?_); (case side1 => exact Kd.C_below HR556_4.out (kL HB)); (case side2 => exact HC556_4.out); rintro e w13 ⟨rfl, hb⟩; refine ⟨_, rfl, ?_⟩; replace HO_6 := am (Kd.R_below (by (with_reducible repeat (first | apply Kd.R_alloc | apply Kd.R_drewN | apply Kd.R_drew)); exact (Kd.R_mono (Kd.R_far (p := ⟨gb557, 4, none⟩) (Kd.R_far (p := ⟨gb557, 3, none⟩) (Kd.R_far (p := ⟨gb557, 2, none⟩) (Kd.R_far (p := ⟨gb557, 1, none⟩) (Kd.R_far (p := ⟨gb557, 0, none⟩) (Kd.R_types HO_6.out BK557.out (by decide)) (fun _ hk => hk.2) (.int .i64 ((rd_T25 l0 x18_1).f0))) (fun _ hk => hk.2) (.string ((rd_T25 l0 x18_1).f1))) (fun _ hk => hk.2) (.string ((rd_T25 l0 x18_1).f2))) (fun _ hk => hk.2) (.string ((rd_T25 l0 x18_1).f3))) (fun _ hk => hk.2) (.slice A556_4 ((rd_T25 l0 x18_1).f4).length c556_4)) (fun _ h_ => h_.1))) hb); replace BK557 := am (bB (g := gb557) (o := .cells #[.int .i64 ((rd_T25 l0 x18_1).f0), .string ((rd_T25 l0 x18_1).f1), .string ((rd_T25 l0 x18_1).f2), .string ((rd_T25 l0 x18_1).f3), .slice A556_4 ((rd_T25 l0 x18_1).f4).length c556_4] 25 (0, 0)) (kM BK557) hb); replace HB := am (below_step (kL HB) hb); (try clear hb)) | ((with_reducible refine gate_builtin (b := .append) (xs := #[.tmp 22, .tmp 25]) rfl ?_); (try (refine gate_guard (by rfl) ?_; dsimp only)); at_builtin; refine Kd.R_append (Kd.int .i64) (w0 := w) w.heap.size rfl (.tmp 22) (.tmp 25) 32 3 (.int .i64 0) 8 rfl Try.underlying32 info3 rfl (by decide) (by omega) u6 x6_1 t558 [.int .i64 t558] (fun _ => True) (fun _ => False) rfl rfl ?aP (fun _ hk => hk.elim) ?aF ?aO ?aB ?aS ?aL ?_; (case aP => exact rfl); (case aB => exact (kL HB)); (case aF => exact (fun _ _ => trivial)); (case aO => exact (rB HO_6)); (case aS => exact (below_size (kL HB))); (case aL => have := LMc9.out; omega); intro v560 w14 ho hb hg hat; rw [← Ny559.out] at ho; have n0_ := am (blk_grown (g := gb557) (o := .cells #[.int .i64 ((rd_T25 l0 x18_1).f0), .string ((rd_T25 l0 x18_1).f1), .string ((rd_T25 l0 x18_1).f2), .string ((rd_T25 l0 x18_1).f3), .slice A556_4 ((rd_T25 l0 x18_1).f4).length c556_4] 25 (0, 0)) (kB BK557) hg (Kd.R_ne HO_6.out BK557.out (by decide))); have n1_ := am hb; have n2_ := am (ho); clear BK557; clear HB; clear HO_6; have BK557 := n0_; have HB := n1_; have HO561 := n2_; clear n0_ n1_ n2_; clear ho hb hg hat; obtain ⟨Ao15, co15, eo15⟩ := Kd.R_slice HO561.out; subst eo15))
        go_loopg [6] k1 (fun kq v6 w' => ∃ (x6_2 : List Int), Aside0 (tree_Depth.l1 kq ji10 x6_2 l0 (l0.length : Int) x18_1 = some r) ∧ Aside0 (kq ≤ k1) ∧ Aside0 (Kd.R (Kd.int .i64) 3 w' w.heap.size (fun _ => True) v6 x6_2) ∧ Aside0 (w'.heap[gb557]? = some (.cells #[.int .i64 ((rd_T25 l0 x18_1).f0), .string ((rd_T25 l0 x18_1).f1), .string ((rd_T25 l0 x18_1).f2), .string ((rd_T25 l0 x18_1).f3), (.slice A556_4 ((rd_T25 l0 x18_1).f4).length c556_4)] 25 (0, 0))) ∧ Aside0 (Below w.heap.size w w'))
        case atStart => exact ⟨(y559), H', ⟨Nat.le_refl _⟩, ⟨rB HO561⟩, ⟨kB BK557⟩, ⟨(kL HB)⟩⟩
        case round =>
         clear H'
         try clear c1
         try clear c2
         try clear p2
         try clear c3
         try clear c5
         try clear c5b0
         try clear p5
         try clear q5
         try clear hx5
         try clear c6
         try clear c6b0
         try clear c7
         try clear c7b0
         try clear c9
         try clear hcz12_0 hcz12_1 hcz12_2 hcz12_3 hcz12_4 hfz12_0 hfz12_1 hfz12_2 hfz12_3 hfz12_4
         try clear hx556_0
         try clear hx556_1
         try clear hx556_2
         try clear hx556_3
         try clear hx556_4
         try clear p2
         try clear p556
         try clear q556
         obtain ⟨x6_2, HA, HK2, HO_6, BK557, HB⟩ := hrel
         cases gk with
         | zero => exact absurd HA.out (by simp [tree_Depth.l1])
         | succ k2 =>
          have H := HA.out
          clear HA
          simp only [tree_Depth.l1] at H
          have HC16 := am H
          clear H
          go_upto_region 11 with (fail)
          go_cut [42] (fun v42 wc => ∃ (kq : Nat) (x42_15 : Bool), v42 = .bool x42_15 ∧ Aside0 (tree_Depth.j2 kq ji10 x6_2 l0 (l0.length : Int) x18_1 x42_15 = some r) ∧ Aside0 (kq ≤ k2) ∧ Aside0 (Kd.R (Kd.int .i64) 3 wc w.heap.size (fun _ => True) u6 x6_2) ∧ Aside0 (wc.heap[gb557]? = some (.cells #[.int .i64 ((rd_T25 l0 x18_1).f0), .string ((rd_T25 l0 x18_1).f1), .string ((rd_T25 l0 x18_1).f2), .string ((rd_T25 l0 x18_1).f3), (.slice A556_4 ((rd_T25 l0 x18_1).f4).length c556_4)] 25 (0, 0))) ∧ Aside0 (Below w.heap.size w wc))
          case first =>
           have H := HC16.out
           clear HC16
           by_cases c17 : (x6_2.length : Int) > 0
           ·rw [if_pos c17] at H
            have c17b0 : decide (0 < (x6_2.length : Int)) = true := decide_eq_true c17
            have c17b1 : decide (0 < x6_2.length) = true := decide_eq_true (by omega)
            clear c17
            (first | rw [c17b0] | (simp only [i64_w, i32_w]; rw [c17b0]) | skip)
            obtain ⟨ji18, hji18⟩ : ∃ j_ : Int, (wrap64 ((x6_2.length : Int) - 1)) = j_ := ⟨_, rfl⟩
            replace H : (if 0 ≤ (ji18) then (if (ji18) < (x6_2.length : Int) then (tree_Depth.j2 k2 ji10 x6_2 l0 (l0.length : Int) x18_1 ((rd x6_2 (ji18)) == 0)) else (none)) else (none)) = some r := by first | (rw [hji18] at H; exact H) | (simp only [hji18] at H ⊢; exact H)
            have hji18w : (IntKind.i64.wrap ((x6_2.length : Int) - 1)) = ji18 := (i64_w _).trans hji18
            by_cases c19 : 0 ≤ (ji18)
            ·rw [if_pos c19] at H
             have c19b0 : decide (0 ≤ (ji18)) = true := decide_eq_true c19
             clear c19
             by_cases c20 : (ji18) < (x6_2.length : Int)
             ·rw [if_pos c20] at H
              have c20b0 : decide ((ji18) < (x6_2.length : Int)) = true := decide_eq_true c20
              clear c20
              have H' := am H
              clear H
              obtain ⟨Ao21, co21, eo21⟩ := Kd.R_slice HO_6.out
              subst eo21
              have p562 : 0 ≤ ((ji18) : Int) := of_decide_eq_true yY
              have q562 : (ji18) < (x6_2.length : Int) := of_decide_eq_true yY
              obtain ⟨ad562, e562, hx562_0⟩ := Kd.at_int (Kd.R_reads' HO_6.out).2.2 (ji18) p562 q562
              cases e562
              replace p562 := eq_true p562
              replace q562 := eq_true q562
              go_wp2
              go_meet
              case rel => exact ⟨_, (((rd x6_2 (ji18)) == 0)), (by first | rfl | (simp; done) | (simp only [← hji18] <;> (first | rfl | simp)) | (simp [*]; done)), H', ⟨by have := HK1.out; have := HK2.out; first | omega | exact Nat.le_refl _⟩, ⟨rB HO_6⟩, ⟨kB BK557⟩, ⟨(kL HB)⟩⟩
             ·rw [if_neg c20] at H
              exact absurd H (by simp)
            ·rw [if_neg c19] at H
             exact absurd H (by simp)
           ·rw [if_neg c17] at H
            have c17b0 : decide (0 < (x6_2.length : Int)) = false := decide_eq_false c17
            have c17b1 : decide (0 < x6_2.length) = false := decide_eq_false (by omega)
            clear c17
            (first | rw [c17b0] | (simp only [i64_w, i32_w]; rw [c17b0]) | skip)
            have H' := am H
            clear H
            obtain ⟨Ao22, co22, eo22⟩ := Kd.R_slice HO_6.out
            subst eo22
            go_wp2
            go_meet
            case rel => exact ⟨_, (false), yS, H', ⟨by have := HK1.out; have := HK2.out; first | omega | exact Nat.le_refl _⟩, ⟨rB HO_6⟩, ⟨kB BK557⟩, ⟨(kL HB)⟩⟩
          case rest =>
           clear HC16
           try clear c1
           try clear c2
           try clear p2
           try clear c3
           try clear c5
           try clear c5b0
           try clear p5
           try clear q5
           try clear hx5
           try clear c6
           try clear c6b0
           try clear p6
           try clear c7
           try clear c7b0
           try clear c9
           try clear c17
           try clear c17b0
           try clear c17b1
           try clear c19
           try clear c19b0
           try clear c20
           try clear c20b0
           try clear c21
           try clear hcz12_0 hcz12_1 hcz12_2 hcz12_3 hcz12_4 hfz12_0 hfz12_1 hfz12_2 hfz12_3 hfz12_4
           try clear hx556_0
           try clear hx556_1
           try clear hx556_2
           try clear hx556_3
           try clear hx556_4
           try clear hx562_0
           try clear p2
           try clear p5
           try clear p556
           try clear p562
           try clear q5
           try clear q556
           try clear q562
           obtain ⟨kq, x42_15, rfl, HA, HJ15, HO_6, BK557, HB⟩ := hcut
           cases kq with
           | zero => exact absurd HA.out (by simp [tree_Depth.j2])
           | succ kj15 =>
            have H := HA.out
            clear HA
            simp only [tree_Depth.j2] at H
            by_cases c23 : x42_15 = true
            ·subst c23
             rw [if_pos rfl] at H
             obtain ⟨ji24, hji24⟩ : ∃ j_ : Int, (wrap64 ((x6_2.length : Int) - 1)) = j_ := ⟨_, rfl⟩
             replace H : (if 0 ≤ (ji24) then (if (ji24) ≤ (x6_2.length : Int) then ((some (x6_2.take ((ji24) : Int).toNat : List Int)).bind fun y563 => (if (y563.length : Int) > 0 then (if 0 ≤ (wrap64 ((y563.length : Int) - 1)) then (if (wrap64 ((y563.length : Int) - 1)) < (y563.length : Int) then (tree_Depth.l1 kj15 ji10 (y563.set ((wrap64 ((y563.length : Int) - 1)) : Int).toNat (wrap64 ((rd y563 (wrap64 ((y563.length : Int) - 1))) - 1))) l0 (l0.length : Int) x18_1) else (none)) else (none)) else (tree_Depth.l1 kj15 ji10 y563 l0 (l0.length : Int) x18_1))) else (none)) else (none)) = some r := by first | (rw [hji24] at H; exact H) | (simp only [hji24] at H ⊢; exact H)
             have hji24w : (IntKind.i64.wrap ((x6_2.length : Int) - 1)) = ji24 := (i64_w _).trans hji24
             by_cases c25 : 0 ≤ (ji24)
             ·rw [if_pos c25] at H
              have c25b0 := eq_true c25
              have c25b1 : decide (0 ≤ (ji24)) = true := decide_eq_true c25
              clear c25
              by_cases c26 : (ji24) ≤ (x6_2.length : Int)
              ·rw [if_pos c26] at H
               have c26b0 := eq_true c26
               have c26b1 : decide ((ji24) ≤ (x6_2.length : Int)) = true := decide_eq_true c26
               clear c26
               obtain ⟨y563, hy563⟩ : ∃ y_ : List Int, y_ = (x6_2.take ((ji24) : Int).toNat) := ⟨_, rfl⟩
               replace H : (if (y563.length : Int) > 0 then (if 0 ≤ (wrap64 ((y563.length : Int) - 1)) then (if (wrap64 ((y563.length : Int) - 1)) < (y563.length : Int) then (tree_Depth.l1 kj15 ji10 (y563.set ((wrap64 ((y563.length : Int) - 1)) : Int).toNat (wrap64 ((rd y563 (wrap64 ((y563.length : Int) - 1))) - 1))) l0 (l0.length : Int) x18_1) else (none)) else (none)) else (tree_Depth.l1 kj15 ji10 y563 l0 (l0.length : Int) x18_1)) = some r := by first | (rw [hy563]; with_reducible exact H) | (have H2_ := (Option.bind_some _ _).symm.trans H; rw [hy563]; with_reducible exact H2_) | (have H2_ := (Option.bind_some _ _).symm.trans H; with_reducible exact H2_) | with_reducible exact H | (rw [hy563]; exact H) | exact H
               have Ny563 := am hy563
               clear hy563
               by_cases c27 : (y563.length : Int) > 0
               ·rw [if_pos c27] at H
                have c27b0 : decide (0 < (y563.length : Int)) = true := decide_eq_true c27
                have c27b1 : decide (0 < y563.length) = true := decide_eq_true (by omega)
                clear c27
                obtain ⟨ji28, hji28⟩ : ∃ j_ : Int, (wrap64 ((y563.length : Int) - 1)) = j_ := ⟨_, rfl⟩
                replace H : (if 0 ≤ (ji28) then (if (ji28) < (y563.length : Int) then (tree_Depth.l1 kj15 ji10 (y563.set ((ji28) : Int).toNat (wrap64 ((rd y563 (ji28)) - 1))) l0 (l0.length : Int) x18_1) else (none)) else (none)) = some r := by first | (rw [hji28] at H; exact H) | (simp only [hji28] at H ⊢; exact H)
                have hji28w : (IntKind.i64.wrap ((y563.length : Int) - 1)) = ji28 := (i64_w _).trans hji28
                by_cases c29 : 0 ≤ (ji28)
                ·rw [if_pos c29] at H
                 have c29b0 : decide (0 ≤ (ji28)) = true := decide_eq_true c29
                 clear c29
                 by_cases c30 : (ji28) < (y563.length : Int)
                 ·rw [if_pos c30] at H
                  have c30b0 : decide ((ji28) < (y563.length : Int)) = true := decide_eq_true c30
                  clear c30
                  obtain ⟨y567, hy567⟩ : ∃ y_ : List Int, y_ = (y563.set ((ji28) : Int).toNat (wrap64 ((rd y563 (ji28)) - 1))) := ⟨_, rfl⟩
                  replace H : (tree_Depth.l1 kj15 ji10 y567 l0 (l0.length : Int) x18_1) = some r := by first | (rw [hy567]; with_reducible exact H) | (have H2_ := (Option.bind_some _ _).symm.trans H; rw [hy567]; with_reducible exact H2_) | (have H2_ := (Option.bind_some _ _).symm.trans H; with_reducible exact H2_) | with_reducible exact H | (rw [hy567]; exact H) | exact H
                  have Ny567 := am hy567
                  clear hy567
                  have H' := am H
                  clear H
                  obtain ⟨Ao32, co32, eo32⟩ := Kd.R_slice HO_6.out
                  subst eo32
                  have q33 : ((ji24) : Int) ≤ ((x6_2.length : Int) : Int) := of_decide_eq_true yY
                  obtain ⟨i033, hi033, _, hsz33, _⟩ := info_parts info3
                  have hcut33 := cut_to (P := Try.prog) 32 3 .i64 Try.underlying32 hi033 Ao32 x6_2.length co32 (ji24) (of_decide_eq_true yY) q33 (Kd.R_reads' HO_6.out).2.1
                  have hr33 := Kd.R_take (m := ((ji24) : Int).toNat) HO_6.out (by omega)
                  have hy33 : y563.length = ((ji24) : Int).toNat := (by rw [Ny563.out, List.length_take]; omega)
                  rw [← Ny563.out] at hr33
                  rw [← hy33] at hr33 hcut33
                  clear hy33 hi033 hsz33 HO_6
                  have HO565 := am hr33
                  clear hr33
                  replace q33 := eq_true q33
                  have p566 : 0 ≤ ((ji28) : Int) := of_decide_eq_true yY
                  have q566 : (ji28) < (y563.length : Int) := of_decide_eq_true yY
                  obtain ⟨ad566, e566, hx566_0⟩ := Kd.at_int (Kd.R_reads' HO565.out).2.2 (ji28) p566 q566
                  cases e566
                  replace p566 := eq_true p566
                  replace q566 := eq_true q566
                  have p31 : 0 ≤ ((ji28) : Int) := of_decide_eq_true yY
                  have q31 : ((ji28) : Int) < ((y563.length : Int) : Int) := of_decide_eq_true yY
                  obtain ⟨go31, co31, eo31, gb31, gl31, cl31, HG31⟩ := Kd.R_form HO565.out (by omega)
                  (first | cases eo31 | (injection eo31 with ea_ en_ ec_; (first | subst ea_ | (injection ea_ with ea_; subst ea_)); subst ec_; clear en_))
                  have GB31 := am gb31
                  have GG31 := am HG31
                  clear gb31 gl31 HG31
                  (first | simp only [add_plain] at hx566_0 | skip)
                  obtain ⟨hx31_0, hf31_0⟩ := Kd.R_celln 0 HO565.out ((ji28) : Int) p31 q31
                  replace p31 := eq_true p31
                  replace q31 := eq_true q31
                  have HP34 := Kd.R_putg HO565.out ((ji28) : Int) (wrap64 ((rd y563 (ji28)) - 1))
                  go_wp2_with ((with_reducible refine gate_store (t := 3) (p := 58) rfl ?_); refine store_event (t := 3) (p := 58) (v := ?vo_w35) (w1 := (wc.setCell ⟨go31, ((ji28) : Int).toNat, none⟩ (.int .i64 (wrap64 ((rd y563 (ji28)) - 1))))) ?hg ?ho ?hn ?hr ?_; (case ho => rfl); (case hg => rfl); (case hn => rfl); (case hr => first | (go_simp; done) | (go_simp; rfl)); intro w35 hw; have hg : wc.grownBy w35 (some go31) := (by rw [hw]; exact HP34.2); have hp_ : Kd.R (Kd.int .i64) 3 w35 w.heap.size (fun _ => True) (.slice (some ⟨go31, 0, none⟩) y563.length co32) y567 := (by rw [hw, Ny567.out]; exact HP34.1); clear HP34; replace BK557 := am (blk_grown (g := gb557) (o := .cells #[.int .i64 ((rd_T25 l0 x18_1).f0), .string ((rd_T25 l0 x18_1).f1), .string ((rd_T25 l0 x18_1).f2), .string ((rd_T25 l0 x18_1).f3), .slice A556_4 ((rd_T25 l0 x18_1).f4).length c556_4] 25 (0, 0)) (kB BK557) hg (Kd.R_ne HO565.out BK557.out (by decide))); replace HO565 := am (hp_); replace HB := am ((by rw [hw]; exact below_set (HB.out) GB31.out : Below w.heap.size w w35)); clear hg hw hp_)
                  go_roundg kj15
                  case measure => have := HK1.out; have := HK2.out; have := HJ15.out; omega
                  case rel => exact ⟨(y567), H', ⟨by have := HK1.out; have := HK2.out; have := HJ15.out; omega⟩, ⟨rB HO565⟩, ⟨kB BK557⟩, ⟨(kL HB)⟩⟩
                 ·rw [if_neg c30] at H
                  exact absurd H (by simp)
                ·rw [if_neg c29] at H
                 exact absurd H (by simp)
               ·rw [if_neg c27] at H
                have c27b0 : decide (0 < (y563.length : Int)) = false := decide_eq_false c27
                have c27b1 : decide (0 < y563.length) = false := decide_eq_false (by omega)
                clear c27
                have H' := am H
                clear H
                obtain ⟨Ao36, co36, eo36⟩ := Kd.R_slice HO_6.out
                subst eo36
                have q37 : ((ji24) : Int) ≤ ((x6_2.length : Int) : Int) := of_decide_eq_true yY
                obtain ⟨i037, hi037, _, hsz37, _⟩ := info_parts info3
                have hcut37 := cut_to (P := Try.prog) 32 3 .i64 Try.underlying32 hi037 Ao36 x6_2.length co36 (ji24) (of_decide_eq_true yY) q37 (Kd.R_reads' HO_6.out).2.1
                have hr37 := Kd.R_take (m := ((ji24) : Int).toNat) HO_6.out (by omega)
                have hy37 : y563.length = ((ji24) : Int).toNat := (by rw [Ny563.out, List.length_take]; omega)
                rw [← Ny563.out] at hr37
                rw [← hy37] at hr37 hcut37
                clear hy37 hi037 hsz37 HO_6
                have HO565 := am hr37
                clear hr37
                replace q37 := eq_true q37
                go_wp2
                go_roundg kj15
                case measure => have := HK1.out; have := HK2.out; have := HJ15.out; omega
                case rel => exact ⟨(y563), H', ⟨by have := HK1.out; have := HK2.out; have := HJ15.out; omega⟩, ⟨rB HO565⟩, ⟨kB BK557⟩, ⟨(kL HB)⟩⟩
              ·rw [if_neg c26] at H
               exact absurd H (by simp)
             ·rw [if_neg c25] at H
              exact absurd H (by simp)
            ·replace c23 := Bool.eq_false_iff.mpr c23
             subst c23
             rw [if_neg (show ¬ (false = true) by decide)] at H
             by_cases c38 : (x6_2.length : Int) = 0
             ·rw [if_pos c38] at H
              have c38b0 := eT c38
              have c38b1 := nF c38
              clear c38
              obtain rfl := Option.some.inj H
              obtain ⟨Ao39, co39, eo39⟩ := Kd.R_slice HO_6.out
              subst eo39
              go_wp2
              go_ret
              exact ⟨by first | rfl | (simp [errW_none, errW_some] <;> rfl) | (simp only [← hji10]; first | rfl | (simp [errW_none, errW_some] <;> rfl)) | (simp [*, errW_none, errW_some] <;> rfl), (kL HB)⟩
             ·rw [if_neg c38] at H
              have c38b0 := eF c38
              have c38b1 := nT c38
              have c38b2 : ¬ (x6_2 = []) := fun h_ => c38 (by rw [h_]; rfl)
              have H' := am H
              clear H
              obtain ⟨Ao40, co40, eo40⟩ := Kd.R_slice HO_6.out
              subst eo40
              go_wp2
              go_roundg kj15
              case measure => have := HK1.out; have := HK2.out; have := HJ15.out; omega
              case rel => exact ⟨(ji10), (x6_2), (wrap64 (x18_1 + 1)), (by first | rfl | (simp; done) | (simp only [← hji10] <;> (first | rfl | simp)) | (simp [*]; done)), yS, H', ⟨by have := HK1.out; have := HK2.out; have := HJ15.out; omega⟩, ⟨rB HO_6⟩, ⟨(kL HB)⟩⟩
       ·rw [if_neg c9] at H
        exact absurd H (by simp)
      ·rw [if_neg c7] at H
       exact absurd H (by simp)
     ·rw [if_neg c6] at H
      exact absurd H (by simp)
    ·rw [if_neg c5] at H
     have c5b0 : decide (x18_1 < (l0.length : Int)) = false := decide_eq_false c5
     clear c5
     obtain rfl := Option.some.inj H
     go_wp2
     go_ret
     exact ⟨yE, (kL HB)⟩
 ·replace c3 := Bool.eq_false_iff.mpr c3
  subst c3
  rw [if_neg (show ¬ (false = true) by decide)] at H
  obtain rfl := Option.some.inj H
  go_enter Try.func26, Try.ntmps26
  go_wp2_with ((with_reducible refine gC 19 rfl ?_); refine gL (some 11) Try.func19 #[.slice A0 l0.length c0, .int .i64 0] ?_; (with_reducible refine (tree_End.calls _ _ _ _ _ _ _ _ ?side1 ?side2 A2.out).mono ?_); (case side1 => repeat (first | exact HR0.out | (with_reducible refine Kd.C_alloc ?_ _) | (with_reducible refine Kd.C_drewN ?_ _) | (with_reducible refine Kd.C_drew ?_))); (case side2 => exact HC0.out); rintro e w41 ⟨rfl, hb⟩; refine ⟨_, rfl, ?_⟩; replace HB := am (below_step (kL HB) hb); (try clear hb))
  go_ret
  exact ⟨yE, (kL HB)⟩
end Go.Proofs.Ytdelccahgchadaa.P
end
section
namespace Go.Proofs.Ytdelccahgchadaa.P
open Go.RowKit Go.Proofs.YtdelccahgchadaaW.PrintWords Go.Proofs.YtdelccahgchadaaW.PrintLast Go.Proofs.YtdelccahgchadaaW.PrintMore
attribute [local go_sem] max2_int min2_int max_two min_two max_three min_three max_four min_four   
set_option linter.unusedVariables false
set_option linter.unusedSimpArgs false
def IsS83 (w0 W : World) (g : Nat) (f0 : List (S71)) (f1 : Int) (f2 : Int) (f3 : Bool) : Prop := ∃ A0 c0, W.heap[g]? = some (.cells #[.slice A0 f0.length c0, .int .i64 f1, .int .i64 f2, .bool f3] 83 (0, 0)) ∧ w0.heap.size ≤ g ∧ Kd.C k71 w0 A0 f0.length f0
theorem IsS83.grown {w0 W : World} {g : Nat} {f0 : List (S71)} {f1 : Int} {f2 : Int} {f3 : Bool} {W1 : World} {row : Option Nat} (h : IsS83 w0 W g f0 f1 f2 f3) (hw : W.grownBy W1 row) (hne : some g ≠ row) : IsS83 w0 W1 g f0 f1 f2 f3 := by
  obtain ⟨A0, c0, hb, hg, hr0⟩ := h
  exact ⟨A0, c0, blk_grown hb hw hne, hg, hr0⟩
theorem IsS83.own_neN {w0 W : World} {g : Nat} {f0 : List (S71)} {f1 : Int} {f2 : Int} {f3 : Bool} {α : Type} {d : Kd α} {e : Nat} {base : Nat} {ok : Nat → Prop} {v : Value} {xs : List α} (h : IsS83 w0 W g f0 f1 f2 f3) (ho : Kd.N d e W base ok v xs) (ht : e ≠ 83) : some g ≠ v.ownBlock := by
  obtain ⟨A0, c0, hb, hg, hr0⟩ := h
  exact Kd.N_ne ho hb ht
theorem IsS83.fresh {w0 W : World} {g : Nat} {f0 : List (S71)} {f1 : Int} {f2 : Int} {f3 : Bool} (h : IsS83 w0 W g f0 f1 f2 f3) : ∀ k, W.heap.size ≤ k → k ≠ g := by
  obtain ⟨A0, c0, hb, hg, hr0⟩ := h
  exact Kd.freshB hb
theorem IsS83.kept {w0 W : World} {g : Nat} {f0 : List (S71)} {f1 : Int} {f2 : Int} {f3 : Bool} {W1 : World} {S : Nat → Prop} (h : IsS83 w0 W g f0 f1 f2 f3) (hk : Kept W W1 S) (hne : ¬ S g) : IsS83 w0 W1 g f0 f1 f2 f3 := by
  obtain ⟨A0, c0, hb, hg, hr0⟩ := h
  exact ⟨A0, c0, blk_kept hb hk hne, hg, hr0⟩
theorem IsS83.below {w0 W : World} {g : Nat} {f0 : List (S71)} {f1 : Int} {f2 : Int} {f3 : Bool} {W1 : World} (h : IsS83 w0 W g f0 f1 f2 f3) (hw : Below W.heap.size W W1) : IsS83 w0 W1 g f0 f1 f2 f3 := h.grown (grown_of_below hw none) (by simp)
theorem IsS83.alloc {w0 W : World} {g : Nat} {f0 : List (S71)} {f1 : Int} {f2 : Int} {f3 : Bool} (h : IsS83 w0 W g f0 f1 f2 f3) (o : Obj) : IsS83 w0 (W.alloc o) g f0 f1 f2 f3 := h.below (below_alloc (Below.refl _ _) o)
theorem IsS83.drewN {w0 W : World} {g : Nat} {f0 : List (S71)} {f1 : Int} {f2 : Int} {f3 : Bool} (h : IsS83 w0 W g f0 f1 f2 f3) (m : Nat) : IsS83 w0 (W.drewN m) g f0 f1 f2 f3 := h
theorem IsS83.drew {w0 W : World} {g : Nat} {f0 : List (S71)} {f1 : Int} {f2 : Int} {f3 : Bool} (h : IsS83 w0 W g f0 f1 f2 f3) : IsS83 w0 W.drew g f0 f1 f2 f3 := h
theorem IsS83.at_ {w0 W : World} {g : Nat} {f0 : List (S71)} {f1 : Int} {f2 : Int} {f3 : Bool} {w' : World} {m : Nat} (hq : W.drewN m = w') (h : IsS83 w0 W g f0 f1 f2 f3) : IsS83 w0 w' g f0 f1 f2 f3 := by subst hq; exact IsS83.drewN h m
theorem IsS83.apart {w0 W : World} {g : Nat} {f0 : List (S71)} {f1 : Int} {f2 : Int} {f3 : Bool} {α : Type} {d : Kd α} {e : Nat} {base : Nat} {ok : Nat → Prop} {v : Value} {xs : List α} (h : IsS83 w0 W g f0 f1 f2 f3) (ho : d.R e W base ok v xs) (ht : ∀ q, q ∈ e :: d.E → q ≠ 83) : d.R e W base (fun k => ok k ∧ k ≠ g) v xs := by
  obtain ⟨A0, c0, hb, hg, hr0⟩ := h
  exact Kd.R_types ho hb ht
theorem IsS83.own_ne {w0 W : World} {g : Nat} {f0 : List (S71)} {f1 : Int} {f2 : Int} {f3 : Bool} {α : Type} {d : Kd α} {e : Nat} {base : Nat} {ok : Nat → Prop} {v : Value} {xs : List α} (h : IsS83 w0 W g f0 f1 f2 f3) (ho : d.R e W base ok v xs) (ht : e ≠ 83) : some g ≠ v.ownBlock := by
  obtain ⟨A0, c0, hb, hg, hr0⟩ := h
  exact Kd.R_ne ho hb ht
theorem IsS83.apartQ {w0 W : World} {g : Nat} {f0 : List (S71)} {f1 : Int} {f2 : Int} {f3 : Bool} {α : Type} {d : Kd α} {e : Nat} {base : Nat} {ok : Nat → Prop} {v : Value} {xs : List α} (h : IsS83 w0 W g f0 f1 f2 f3) (ho : d.Q e W base ok v xs) (ht : ∀ q, q ∈ e :: d.E → q ≠ 83) : d.Q e W base (fun k => ok k ∧ k ≠ g) v xs := by
  obtain ⟨A0, c0, hb, hg, hr0⟩ := h
  exact Kd.Q_types ho hb ht
theorem IsS83.own_neQ {w0 W : World} {g : Nat} {f0 : List (S71)} {f1 : Int} {f2 : Int} {f3 : Bool} {α : Type} {d : Kd α} {e : Nat} {base : Nat} {ok : Nat → Prop} {v : Value} {xs : List α} (h : IsS83 w0 W g f0 f1 f2 f3) (ho : d.Q e W base ok v xs) (ht : e ≠ 83) : some g ≠ v.ownBlock := by
  obtain ⟨A0, c0, hb, hg, hr0⟩ := h
  exact Kd.Q_ne ho hb ht
theorem IsS83.apartS {w0 W : World} {g : Nat} {f0 : List (S71)} {f1 : Int} {f2 : Int} {f3 : Bool} {α : Type} {d : Kd α} {e : Nat} {base : Nat} {ok : Nat → Prop} {v : Value} {xs : List α} (h : IsS83 w0 W g f0 f1 f2 f3) (ho : d.S e W base ok v xs) (ht : ∀ q, q ∈ e :: d.E → q ≠ 83) : d.S e W base (fun k => ok k ∧ k ≠ g) v xs := by
  obtain ⟨A0, c0, hb, hg, hr0⟩ := h
  exact Kd.S_types ho hb ht
theorem IsS83.own_neS {w0 W : World} {g : Nat} {f0 : List (S71)} {f1 : Int} {f2 : Int} {f3 : Bool} {α : Type} {d : Kd α} {e : Nat} {base : Nat} {ok : Nat → Prop} {v : Value} {xs : List α} (h : IsS83 w0 W g f0 f1 f2 f3) (ho : d.S e W base ok v xs) (ht : e ≠ 83) : some g ≠ v.ownBlock := by
  obtain ⟨A0, c0, hb, hg, hr0⟩ := h
  exact Kd.S_ne ho hb ht
theorem IsS83.lt {w0 W : World} {g : Nat} {f0 : List (S71)} {f1 : Int} {f2 : Int} {f3 : Bool} (h : IsS83 w0 W g f0 f1 f2 f3) : g < W.heap.size := by
  obtain ⟨A0, c0, hb, hg, hr0⟩ := h
  exact blk_lt hb
theorem IsS83.ge {w0 W : World} {g : Nat} {f0 : List (S71)} {f1 : Int} {f2 : Int} {f3 : Bool} (h : IsS83 w0 W g f0 f1 f2 f3) : w0.heap.size ≤ g := by
  obtain ⟨A0, c0, hb, hg, hr0⟩ := h
  exact hg
theorem IsS83.ne_blk {w0 W : World} {g : Nat} {f0 : List (S71)} {f1 : Int} {f2 : Int} {f3 : Bool} {a : Nat} {cs : Array Value} {t : TypeId} {fr : Nat × Nat} (h : IsS83 w0 W g f0 f1 f2 f3) (hb2 : W.heap[a]? = some (.cells cs t fr)) (ht : t ≠ 83) : g ≠ a := by
  obtain ⟨A0, c0, hb, hg, hr0⟩ := h
  rintro rfl
  rw [hb] at hb2
  injection hb2 with hb2
  injection hb2 with _ ht2
  exact ht ht2.symm
theorem IsS83.far {w0 W : World} {g : Nat} {f0 : List (S71)} {f1 : Int} {f2 : Int} {f3 : Bool} {p : Addr} (h : IsS83 w0 W g f0 f1 f2 f3) (hne : g ≠ p.block) (u : Value) : IsS83 w0 (W.setCell p u) g f0 f1 f2 f3 := by
  obtain ⟨A0, c0, hb, hg, hr0⟩ := h
  exact ⟨A0, c0, blk_far hb hne u, hg, hr0⟩
theorem cellS83_0 {W : World} {g : Nat} {A0 : Option Addr} {c0 : Nat} {f0 : List (S71)} {f1 : Int} {f2 : Int} {f3 : Bool} (h : W.heap[g]? = some (.cells #[.slice A0 f0.length c0, .int .i64 f1, .int .i64 f2, .bool f3] 83 (0, 0))) : W.cell? ⟨g, 0, none⟩ = some (.slice A0 f0.length c0) := (blk_cell h 0).trans rfl
theorem cellS83_1 {W : World} {g : Nat} {A0 : Option Addr} {c0 : Nat} {f0 : List (S71)} {f1 : Int} {f2 : Int} {f3 : Bool} (h : W.heap[g]? = some (.cells #[.slice A0 f0.length c0, .int .i64 f1, .int .i64 f2, .bool f3] 83 (0, 0))) : W.cell? ⟨g, 1, none⟩ = some (.int .i64 f1) := (blk_cell h 1).trans rfl
theorem IsS83.set_1 {w0 W : World} {g : Nat} {f0 : List (S71)} {f1 : Int} {f2 : Int} {f3 : Bool} (h : IsS83 w0 W g f0 f1 f2 f3) (x : Int) : IsS83 w0 (W.setCell ⟨g, 1, none⟩ (.int .i64 x)) g f0 x f2 f3 := by
  obtain ⟨A0, c0, hb, hg, hr0⟩ := h
  exact ⟨A0, c0, by simpa using blk_set hb 1 (.int .i64 x), hg, hr0⟩
theorem cellS83_2 {W : World} {g : Nat} {A0 : Option Addr} {c0 : Nat} {f0 : List (S71)} {f1 : Int} {f2 : Int} {f3 : Bool} (h : W.heap[g]? = some (.cells #[.slice A0 f0.length c0, .int .i64 f1, .int .i64 f2, .bool f3] 83 (0, 0))) : W.cell? ⟨g, 2, none⟩ = some (.int .i64 f2) := (blk_cell h 2).trans rfl
theorem IsS83.set_2 {w0 W : World} {g : Nat} {f0 : List (S71)} {f1 : Int} {f2 : Int} {f3 : Bool} (h : IsS83 w0 W g f0 f1 f2 f3) (x : Int) : IsS83 w0 (W.setCell ⟨g, 2, none⟩ (.int .i64 x)) g f0 f1 x f3 := by
  obtain ⟨A0, c0, hb, hg, hr0⟩ := h
  exact ⟨A0, c0, by simpa using blk_set hb 2 (.int .i64 x), hg, hr0⟩
theorem cellS83_3 {W : World} {g : Nat} {A0 : Option Addr} {c0 : Nat} {f0 : List (S71)} {f1 : Int} {f2 : Int} {f3 : Bool} (h : W.heap[g]? = some (.cells #[.slice A0 f0.length c0, .int .i64 f1, .int .i64 f2, .bool f3] 83 (0, 0))) : W.cell? ⟨g, 3, none⟩ = some (.bool f3) := (blk_cell h 3).trans rfl
theorem IsS83.set_3 {w0 W : World} {g : Nat} {f0 : List (S71)} {f1 : Int} {f2 : Int} {f3 : Bool} (h : IsS83 w0 W g f0 f1 f2 f3) (x : Bool) : IsS83 w0 (W.setCell ⟨g, 3, none⟩ (.bool x)) g f0 f1 f2 x := by
  obtain ⟨A0, c0, hb, hg, hr0⟩ := h
  exact ⟨A0, c0, by simpa using blk_set hb 3 (.bool x), hg, hr0⟩
theorem IsS83.new (w0 W : World) (A0 : Option Addr) (c0 : Nat) (f0 : List (S71)) (f1 : Int) (f2 : Int) (f3 : Bool) (hB : Below w0.heap.size w0 W) (hr0 : Kd.C k71 w0 A0 f0.length f0) : IsS83 w0 (W.alloc (.cells #[.slice A0 f0.length c0, .int .i64 f1, .int .i64 f2, .bool f3] 83)) W.heap.size f0 f1 f2 f3 := ⟨A0, c0, by simpa using heap_alloc_new W _, hB.size, hr0⟩
theorem IsS83.look {w0 W : World} {g : Nat} {f0 : List (S71)} {f1 : Int} {f2 : Int} {f3 : Bool} (h : IsS83 w0 W g f0 f1 f2 f3) : ∃ A0 c0, Kd.C k71 w0 A0 f0.length f0 ∧ W.cell? ⟨g, 0, none⟩ = some (.slice A0 f0.length c0) ∧ W.cell? ⟨g, 1, none⟩ = some (.int .i64 f1) ∧ W.cell? ⟨g, 2, none⟩ = some (.int .i64 f2) ∧ W.cell? ⟨g, 3, none⟩ = some (.bool f3) ∧ W.frozen? ⟨g, 1, none⟩ = false ∧ W.frozen? ⟨g, 2, none⟩ = false ∧ W.frozen? ⟨g, 3, none⟩ = false := by
  obtain ⟨A0, c0, hG, hg, hs0⟩ := h
  exact ⟨A0, c0, hs0, cellS83_0 hG, cellS83_1 hG, cellS83_2 hG, cellS83_3 hG, blk_frozen hG 1, blk_frozen hG 2, blk_frozen hG 3⟩
theorem yI {p : Prop} (h : p := by repeat (first | (with_reducible first | exact HI0.out | (refine @IsS83.set_1 _ _ _ _ ?_ _ _ ?_ _; rotate_left) | (refine @IsS83.set_2 _ _ _ _ _ ?_ _ ?_ _; rotate_left) | (refine @IsS83.set_3 _ _ _ _ _ _ ?_ ?_ _; rotate_left) | apply IsS83.alloc | apply IsS83.drew | apply IsS83.drewN | refine IsS83.far ?_ (Aside0.out (by assumption)) _) | exact HI0.out)) : p := h
theorem kLI {w w1 W : World} (h : Aside0 (Below w.heap.size w w1)) (u : LMv w w1 W := by repeat (with_reducible first | exact lmR _ _ | apply lmA | apply lmN | apply lmD | refine lmS ?_ (IsS83.ge HI0.out) | refine lmS ?_ (Aside0.out (by assumption)))) : Below w.heap.size w W := u h.out
end Go.Proofs.Ytdelccahgchadaa.P
end
section
namespace Go.Proofs.Ytdelccahgchadaa.P
open Go.RowKit Go.Proofs.YtdelccahgchadaaW.PrintWords Go.Proofs.YtdelccahgchadaaW.PrintLast Go.Proofs.YtdelccahgchadaaW.PrintMore
attribute [local go_sem] max2_int min2_int max_two min_two max_three min_three max_four min_four   
set_option linter.unusedVariables false
set_option linter.unusedSimpArgs false
def api_Node_64.f  (a1 : Int) : Option ((List (S25))) := if a1 < 0 then (none) else (if (wrap64 a1) > 0 then (if 0 ≤ (wrap64 a1) then (if ([] : List (S25)).length + (wrap64 a1 : Int).toNat < 1759218604441 then ((some (([] : List (S25)) ++ List.replicate (wrap64 a1 : Int).toNat z25 : List (S25))).bind fun y101 => (if 0 ≤ (y101.length : Int) then (some (y101.take (0 : Int).toNat)) else (none))) else (none)) else (none)) else (some ([] : List (S25))))
set_option maxHeartbeats 8000000 in
set_option maxRecDepth 100000 in
theorem api_Node_64.calls  (a1 : Int) (r : List (S25)) (w : World) (h : api_Node_64.f a1 = some r) :
  Calls Try.prog 64 #[.slice none 0 0, .int .i64 a1] w fun e w' => ∃ v0_ : Value, e = .returned (v0_) ∧ Kd.S k25 25 w' w.heap.size (fun _ => True) v0_ r ∧ Below w.heap.size w w' := by
 have HB := am (Below.refl w.heap.size w)
 unfold api_Node_64.f at h
 have H := h
 clear h
 by_cases c3 : a1 < 0
 ·rw [if_pos c3] at H
  exact absurd H (by simp)
 ·rw [if_neg c3] at H
  have c3b0 : decide (a1 < 0) = false := decide_eq_false c3
  clear c3
  by_cases c4 : (wrap64 a1) > 0
  ·rw [if_pos c4] at H
   have c4b0 : decide (0 < (wrap64 a1)) = true := decide_eq_true c4
   clear c4
   obtain ⟨ji5, hji5⟩ : ∃ j_ : Int, (wrap64 a1) = j_ := ⟨_, rfl⟩
   replace H : (if 0 ≤ (ji5) then (if ([] : List (S25)).length + (ji5 : Int).toNat < 1759218604441 then ((some (([] : List (S25)) ++ List.replicate (ji5 : Int).toNat z25 : List (S25))).bind fun y101 => (if 0 ≤ (y101.length : Int) then (some (y101.take (0 : Int).toNat)) else (none))) else (none)) else (none)) = some r := by first | (rw [hji5] at H; exact H) | (simp only [hji5] at H ⊢; exact H)
   (try rw [hji5] at c4b0)
   have hji5w : (IntKind.i64.wrap a1) = ji5 := (i64_w _).trans hji5
   by_cases c6 : 0 ≤ (ji5)
   ·rw [if_pos c6] at H
    have c6b0 := eq_true c6
    have c6b1 : decide (0 ≤ (ji5)) = true := decide_eq_true c6
    clear c6
    by_cases c7 : ([] : List (S25)).length + (ji5 : Int).toNat < 1759218604441
    ·rw [if_pos c7] at H
     have LMc7 := am c7
     clear c7
     obtain ⟨y101, hy101⟩ : ∃ y_ : List (S25), y_ = (([] : List (S25)) ++ List.replicate (ji5 : Int).toNat z25) := ⟨_, rfl⟩
     replace H : (if 0 ≤ (y101.length : Int) then (some (y101.take (0 : Int).toNat)) else (none)) = some r := by first | (rw [hy101]; with_reducible exact H) | (have H2_ := (Option.bind_some _ _).symm.trans H; rw [hy101]; with_reducible exact H2_) | (have H2_ := (Option.bind_some _ _).symm.trans H; with_reducible exact H2_) | with_reducible exact H | (rw [hy101]; exact H) | exact H
     have Ny101 := am hy101
     clear hy101
     by_cases c8 : 0 ≤ (y101.length : Int)
     ·rw [if_pos c8] at H
      have c8b0 := eq_true c8
      have c8b1 : decide (0 ≤ (y101.length : Int)) = true := decide_eq_true c8
      clear c8
      obtain ⟨y104, hy104⟩ : ∃ y_ : List (S25), y_ = (y101.take (0 : Int).toNat) := ⟨_, rfl⟩
      replace H : (some y104) = some r := by first | (rw [hy104]; with_reducible exact H) | (have H2_ := (Option.bind_some _ _).symm.trans H; rw [hy104]; with_reducible exact H2_) | (have H2_ := (Option.bind_some _ _).symm.trans H; with_reducible exact H2_) | with_reducible exact H | (rw [hy104]; exact H) | exact H
      have Ny104 := am hy104
      clear hy104
      obtain rfl := Option.some.inj H
      go_enter Try.func64, Try.ntmps64
      go_wp2_with (at_builtin; refine Kd.S_append_zeros k25 (w0 := w) w.heap.size rfl (.tmp 20) (.tmp 21) 22 3 25 (.agg #[(.int .i64 0), (.string ⟨#[]⟩), (.string ⟨#[]⟩), (.string ⟨#[]⟩), (.slice none 0 0)]) 80 rfl Try.underlying22 Try.underlying3 info25 rfl (by decide) (by omega) (.slice none 0 0) ([] : List (S25)) z25 (ji5 : Int) (fun _ => True) rfl rfl (k25_mkM _ _ _ z25 (Kd.R_nil _ _ _ _ _)) ?aF ?aO (of_decide_eq_true yY) ?aB ?aS ?aL ?_; (case aB => exact (kL HB)); (case aF => exact (fun _ _ => trivial)); (case aO => exact ((Kd.S_nil _ _ _ _ _))); (case aS => exact (below_size (kL HB))); (case aL => have := LMc7.out; omega); intro v102 w9 ho hb hg hat; rw [← Ny101.out] at ho; have n0_ := am hb; have n1_ := am (ho); clear HB; have HB := n0_; have HO103 := n1_; clear n0_ n1_; clear ho hb hg hat; obtain ⟨Ao10, co10, eo10⟩ := Kd.S_slice HO103.out; subst eo10; have q11 : (0 : Int) ≤ ((y101.length : Int) : Int) := of_decide_eq_true yY; obtain ⟨i011, hi011, _, hsz11, _⟩ := info_parts info25; have hcut11 := cut_to (P := Try.prog) 22 25 .i64 Try.underlying22 hi011 Ao10 y101.length co10 0 (by omega) q11 (Kd.S_reads' HO103.out).2.1; have hr11 := Kd.S_take (m := (0 : Int).toNat) HO103.out (by omega); have hy11 : y104.length = (0 : Int).toNat := (by rw [Ny104.out, List.length_take]; omega); rw [← Ny104.out] at hr11; rw [← hy11] at hr11 hcut11; clear hy11 hi011 hsz11 HO103; have HO106 := am hr11; clear hr11; replace q11 := eq_true q11)
      go_ret
      exact ⟨_, by first | rfl | (simp [errW_none, errW_some] <;> rfl) | (simp only [← hji5]; first | rfl | (simp [errW_none, errW_some] <;> rfl)) | (simp [*, errW_none, errW_some] <;> rfl), sB HO106, (kL HB)⟩
     ·rw [if_neg c8] at H
      exact absurd H (by simp)
    ·rw [if_neg c7] at H
     exact absurd H (by simp)
   ·rw [if_neg c6] at H
    exact absurd H (by simp)
  ·rw [if_neg c4] at H
   have c4b0 : decide (0 < (wrap64 a1)) = false := decide_eq_false c4
   clear c4
   obtain rfl := Option.some.inj H
   go_enter Try.func64, Try.ntmps64
   go_wp2
   go_ret
   exact ⟨_, yE, yZ, (kL HB)⟩
mutual
def api_Node_48.l0 : Nat → List (List (S25)) → Int → List (List (S25)) → Int → Int → Option ((List (S25)))
 | 0, _, _, _, _, _ => none
 | k + 1, x0, x3, x9, x10, x11 => if x11 < x10 then (if 0 ≤ x11 then (if x11 < (x9.length : Int) then (if (wrap64 (x3 + ((rd_L4 x9 x11).length : Int))) < 0 then (none) else (api_Node_48.l0 k x0 (wrap64 (x3 + ((rd_L4 x9 x11).length : Int))) x9 x10 (wrap64 (x11 + 1)))) else (none)) else (none)) else ((api_Node_64.f x3).bind fun t108 => (api_Node_48.l1 k t108 x0 (x0.length : Int) 0))
def api_Node_48.l1 : Nat → List (S25) → List (List (S25)) → Int → Int → Option ((List (S25)))
 | 0, _, _, _, _ => none
 | k + 1, x6, x25, x26, x27 => if x27 < x26 then (if 0 ≤ x27 then (if x27 < (x25.length : Int) then (if x6.length + (rd_L4 x25 x27).length < 1759218604441 then (api_Node_48.l1 k (x6 ++ (rd_L4 x25 x27)) x25 x26 (wrap64 (x27 + 1))) else (none)) else (none)) else (none)) else (some x6)
end
def api_Node_48.f (k : Nat) (l0 : List (List (S25))) : Option ((List (S25))) := api_Node_48.l0 k l0 0 l0 (l0.length : Int) 0
theorem api_Node_48.mono_l : ∀ k, (∀ y0 y1 y2 y3 y4, LeO (api_Node_48.l0 k y0 y1 y2 y3 y4) (api_Node_48.l0 (k + 1) y0 y1 y2 y3 y4)) ∧ (∀ y0 y1 y2 y3, LeO (api_Node_48.l1 k y0 y1 y2 y3) (api_Node_48.l1 (k + 1) y0 y1 y2 y3))
 | 0 => ⟨fun _ _ _ _ _ r h => by simp [api_Node_48.l0] at h, fun _ _ _ _ r h => by simp [api_Node_48.l1] at h⟩
 | k + 1 => by
  obtain ⟨ih0, ih1⟩ := api_Node_48.mono_l k
  refine ⟨?_, ?_⟩
  ·intro y0 y1 y2 y3 y4
   unfold api_Node_48.l0
   with_reducible repeat' first
   | exact ih0 _ _ _ _ _
   | exact ih1 _ _ _ _
   | exact LeO.refl _
   | exact LeO.none _
   | refine LeO.ite ?_ ?_
   | refine LeO.bind ?_ (fun _ => ?_)
  ·intro y0 y1 y2 y3
   unfold api_Node_48.l1
   with_reducible repeat' first
   | exact ih0 _ _ _ _ _
   | exact ih1 _ _ _ _
   | exact LeO.refl _
   | exact LeO.none _
   | refine LeO.ite ?_ ?_
   | refine LeO.bind ?_ (fun _ => ?_)
theorem api_Node_48.mono : ∀ a0 k, LeO (api_Node_48.f k a0) (api_Node_48.f (k + 1) a0) := by
 intro a0 k
 obtain ⟨ih0, ih1⟩ := api_Node_48.mono_l k
 unfold api_Node_48.f
 with_reducible repeat' first
   | exact ih0 _ _ _ _ _
   | exact ih1 _ _ _ _
   | exact LeO.refl _
   | exact LeO.none _
   | refine LeO.ite ?_ ?_
   | refine LeO.bind ?_ (fun _ => ?_)
set_option maxHeartbeats 8000000 in
set_option maxRecDepth 100000 in
theorem api_Node_48.calls (k : Nat) (P0_ : Nat → Prop) (A0 : Option Addr) (c0 : Nat) (l0 : List (List (S25))) (r : List (S25)) (w : World) (hs0 : Kd.V (Kd.slice 25 k25) 22 w w.heap.size (fun k_ => P0_ k_) (.slice A0 l0.length c0) l0) (h : api_Node_48.f k l0 = some r) :
  Calls Try.prog 48 #[.slice A0 l0.length c0] w fun e w' => ∃ v0_ : Value, e = .returned (v0_) ∧ Kd.N k25 25 w' w.heap.size (fun k_ => (P0_ k_ ∨ w.heap.size ≤ k_)) v0_ r ∧ Below w.heap.size w w' := by
 have HO0 := am (show Kd.V (Kd.slice 25 k25) 22 w w.heap.size (fun k_ => (P0_ k_ ∨ w.heap.size ≤ k_)) (.slice A0 l0.length c0) l0 from Kd.V_mono hs0 (fun k_ hk => .inl hk))
 have HB := am (Below.refl w.heap.size w)
 unfold api_Node_48.f at h
 have H := h
 clear h
 have H' := am H
 clear H
 go_enter Try.func48, Try.ntmps48
 go_wp2
 go_loopg [3, 11] k (fun kq v3 v11 w' => ∃ (x3_1 : Int) (x11_1 : Int), v3 = .int .i64 x3_1 ∧ v11 = .int .i64 x11_1 ∧ Aside0 (api_Node_48.l0 kq l0 x3_1 l0 (l0.length : Int) x11_1 = some r) ∧ Aside0 (kq ≤ k) ∧ Aside0 (Kd.V (Kd.slice 25 k25) 22 w' w.heap.size (fun k_ => (P0_ k_ ∨ w.heap.size ≤ k_)) (.slice A0 l0.length c0) l0) ∧ Aside0 (Kd.V (Kd.slice 25 k25) 22 w' w.heap.size (fun k_ => (P0_ k_ ∨ w.heap.size ≤ k_)) (.slice A0 l0.length c0) l0) ∧ Aside0 (Below w.heap.size w w'))
 case atStart => exact ⟨(0), (0), yS, yS, H', ⟨Nat.le_refl _⟩, ⟨vB HO0⟩, ⟨vB HO0⟩, ⟨(kL HB)⟩⟩
 case round =>
  clear H'
  obtain ⟨x3_1, x11_1, rfl, rfl, HA, HK1, HO_0, HO_9, HB⟩ := hrel
  cases gk with
  | zero => exact absurd HA.out (by simp [api_Node_48.l0])
  | succ k1 =>
   have H := HA.out
   clear HA
   simp only [api_Node_48.l0] at H
   by_cases c2 : x11_1 < (l0.length : Int)
   ·rw [if_pos c2] at H
    have c2b0 : decide (x11_1 < (l0.length : Int)) = true := decide_eq_true c2
    clear c2
    by_cases c3 : 0 ≤ x11_1
    ·rw [if_pos c3] at H
     have c3b0 : decide (0 ≤ x11_1) = true := decide_eq_true c3
     clear c3
     by_cases c4 : x11_1 < (l0.length : Int)
     ·rw [if_pos c4] at H
      have c4b0 : decide (x11_1 < (l0.length : Int)) = true := decide_eq_true c4
      clear c4
      by_cases c5 : (wrap64 (x3_1 + ((rd_L4 l0 x11_1).length : Int))) < 0
      ·rw [if_pos c5] at H
       exact absurd H (by simp)
      ·rw [if_neg c5] at H
       have c5b0 : decide ((wrap64 (x3_1 + ((rd_L4 l0 x11_1).length : Int))) < 0) = false := decide_eq_false c5
       clear c5
       have H' := am H
       clear H
       have p107 : 0 ≤ (x11_1 : Int) := of_decide_eq_true yY
       have q107 : x11_1 < (l0.length : Int) := of_decide_eq_true yY
       obtain ⟨ad107, A107_0, c107_0, e107, hx107_0, hl107_0, hi107_0⟩ := at_L4 (Kd.V_reads' HO_9.out).2.2 x11_1 p107 q107
       cases e107
       obtain ⟨ce107, hce107, hMe107, hcc107⟩ := Kd.V_get HO_9.out [] x11_1 p107 (by first | exact q107 | exact of_decide_eq_true yY | (have e_ := (Kd.V_reads' HO_9.out).1; omega))
       obtain ⟨ua107_0, uc107_0, rfl, ul107_0, ge107_0⟩ := Kd.FK_slice_open hMe107
       have hv107_0 := hcc107 0 _ rfl
       rw [Nat.add_zero, show ((Kd.slice 25 k25)).sz = 1 from rfl, Nat.mul_one] at hv107_0
       replace hv107_0 := Option.some.inj (hv107_0.symm.trans hx107_0)
       injection hv107_0 with hva_ hvn_ hvc_
       rw [hva_] at ge107_0
       rw [hvc_] at ul107_0
       have HL107_0 := am (show Kd.V k25 25 _ w.heap.size _ _ (rd_L4 l0 x11_1) from Kd.V_mk ul107_0 ge107_0)
       clear hva_ hvn_ hvc_ ge107_0 ul107_0
       clear hcc107 hce107
       have HR107_0 := am hi107_0
       have HC107_0 := am hl107_0
       clear hi107_0 hl107_0
       replace p107 := eq_true p107
       replace q107 := eq_true q107
       go_wp2
       go_roundg k1
       case measure => have := HK1.out; omega
       case rel => exact ⟨(wrap64 (x3_1 + ((rd_L4 l0 x11_1).length : Int))), (wrap64 (x11_1 + 1)), yS, yS, H', ⟨by have := HK1.out; omega⟩, ⟨vB HO_0⟩, ⟨vB HO_9⟩, ⟨(kL HB)⟩⟩
     ·rw [if_neg c4] at H
      exact absurd H (by simp)
    ·rw [if_neg c3] at H
     exact absurd H (by simp)
   ·rw [if_neg c2] at H
    have c2b0 : decide (x11_1 < (l0.length : Int)) = false := decide_eq_false c2
    clear c2
    obtain ⟨t108, A6, H⟩ := bO H
    try dsimp only at H
    have H' := am H
    clear H
    go_wp2_with ((with_reducible refine gC 64 rfl ?_); refine gL (some 24) Try.func64 #[.slice none 0 0, .int .i64 x3_1] ?_; (with_reducible refine (api_Node_64.calls _ _ _ A6.out).mono ?_); rintro e w7 ⟨v109, rfl, ho0, hb⟩; refine ⟨_, rfl, ?_⟩; replace HO_0 := am (Kd.V_elder' (vB HO_0) (Kd.N_base (Kd.S_N ho0)) hb); replace HO_9 := am (Kd.V_elder' (vB HO_9) (Kd.N_base (Kd.S_N ho0)) hb); have HO110 := am (Kd.N_lower (Kd.N_mono (ok' := fun k_ => (P0_ k_ ∨ w.heap.size ≤ k_)) (Kd.S_N (Kd.S_bound ho0)) (fun k_ hk_ => (.inr (Nat.le_trans (below_size (kL HB)) hk_.2.1)))) (below_size (kL HB))); replace HB := am (below_step (kL HB) hb); (try clear ho0 hb))
    go_loopg [6, 27] k1 (fun kq v6 v27 w' => ∃ (x6_2 : List (S25)) (x27_2 : Int), v27 = .int .i64 x27_2 ∧ Aside0 (api_Node_48.l1 kq x6_2 l0 (l0.length : Int) x27_2 = some r) ∧ Aside0 (kq ≤ k1) ∧ Aside0 (Kd.N k25 25 w' w.heap.size (fun k_ => (P0_ k_ ∨ w.heap.size ≤ k_)) v6 x6_2) ∧ Aside0 (Kd.V (Kd.slice 25 k25) 22 w' w.heap.size (fun k_ => (P0_ k_ ∨ w.heap.size ≤ k_) ∧ some k_ ≠ (v6 : Value).ownBlock) (.slice A0 l0.length c0) l0) ∧ Aside0 (Below w.heap.size w w'))
    case atStart => exact ⟨(t108), (0), yS, H', ⟨Nat.le_refl _⟩, ⟨nB HO110⟩, ⟨vB HO_0⟩, ⟨(kL HB)⟩⟩
    case round =>
     clear H'
     try clear c1
     try clear p1
     try clear q1
     try clear hx1
     try clear c2
     try clear c2b0
     try clear p2
     try clear c3
     try clear c3b0
     try clear c4
     try clear c4b0
     try clear c5
     try clear c5b0
     try clear c6
     try clear p6
     try clear hx107_0
     try clear p107
     try clear q107
     obtain ⟨x6_2, x27_2, rfl, HA, HK2, HO_6, HO_25, HB⟩ := hrel
     cases gk with
     | zero => exact absurd HA.out (by simp [api_Node_48.l1])
     | succ k2 =>
      have H := HA.out
      clear HA
      simp only [api_Node_48.l1] at H
      by_cases c8 : x27_2 < (l0.length : Int)
      ·rw [if_pos c8] at H
       have c8b0 : decide (x27_2 < (l0.length : Int)) = true := decide_eq_true c8
       clear c8
       by_cases c9 : 0 ≤ x27_2
       ·rw [if_pos c9] at H
        have c9b0 : decide (0 ≤ x27_2) = true := decide_eq_true c9
        clear c9
        by_cases c10 : x27_2 < (l0.length : Int)
        ·rw [if_pos c10] at H
         have c10b0 : decide (x27_2 < (l0.length : Int)) = true := decide_eq_true c10
         clear c10
         by_cases c11 : x6_2.length + (rd_L4 l0 x27_2).length < 1759218604441
         ·rw [if_pos c11] at H
          have LMc11 := am c11
          clear c11
          obtain ⟨y112, hy112⟩ : ∃ y_ : List (S25), y_ = (x6_2 ++ (rd_L4 l0 x27_2)) := ⟨_, rfl⟩
          replace H : (api_Node_48.l1 k2 y112 l0 (l0.length : Int) (wrap64 (x27_2 + 1))) = some r := by first | (rw [hy112]; with_reducible exact H) | (have H2_ := (Option.bind_some _ _).symm.trans H; rw [hy112]; with_reducible exact H2_) | (have H2_ := (Option.bind_some _ _).symm.trans H; with_reducible exact H2_) | with_reducible exact H | (rw [hy112]; exact H) | exact H
          have Ny112 := am hy112
          clear hy112
          have H' := am H
          clear H
          have p111 : 0 ≤ (x27_2 : Int) := of_decide_eq_true yY
          have q111 : x27_2 < (l0.length : Int) := of_decide_eq_true yY
          obtain ⟨ad111, A111_0, c111_0, e111, hx111_0, hl111_0, hi111_0⟩ := at_L4 (Kd.V_reads' HO_25.out).2.2 x27_2 p111 q111
          cases e111
          obtain ⟨ce111, hce111, hMe111, hcc111⟩ := Kd.V_get HO_25.out [] x27_2 p111 (by first | exact q111 | exact of_decide_eq_true yY | (have e_ := (Kd.V_reads' HO_25.out).1; omega))
          obtain ⟨ua111_0, uc111_0, rfl, ul111_0, ge111_0⟩ := Kd.FK_slice_open hMe111
          have hv111_0 := hcc111 0 _ rfl
          rw [Nat.add_zero, show ((Kd.slice 25 k25)).sz = 1 from rfl, Nat.mul_one] at hv111_0
          replace hv111_0 := Option.some.inj (hv111_0.symm.trans hx111_0)
          injection hv111_0 with hva_ hvn_ hvc_
          rw [hva_] at ge111_0
          rw [hvc_] at ul111_0
          have HL111_0 := am (show Kd.V k25 25 _ w.heap.size _ _ (rd_L4 l0 x27_2) from Kd.V_mk ul111_0 ge111_0)
          clear hva_ hvn_ hvc_ ge111_0 ul111_0
          clear hcc111 hce111
          have HR111_0 := am hi111_0
          have HC111_0 := am hl111_0
          clear hi111_0 hl111_0
          replace p111 := eq_true p111
          replace q111 := eq_true q111
          go_wp2_with ((with_reducible refine gate_builtin (b := .append) (xs := #[.tmp 31, .tmp 32]) rfl ?_); at_builtin; refine Kd.N_append_rows k25 (w0 := w) w.heap.size rfl (.tmp 31) (.tmp 32) 22 25 (.agg #[(.int .i64 0), (.string ⟨#[]⟩), (.string ⟨#[]⟩), (.string ⟨#[]⟩), (.slice none 0 0)]) 80 rfl Try.underlying22 info25 rfl (by decide) (by omega) u6 x6_2 (rd_L4 l0 x27_2) _ _ _ (fun k_ => (P0_ k_ ∨ w.heap.size ≤ k_)) (fun k_ => ((fun k_ => (P0_ k_ ∨ w.heap.size ≤ k_))) k_ ∧ some k_ ≠ (u6 : Value).ownBlock) rfl rfl ?aO ?aR (fun _ hk => hk) ?aF ?aB ?aS ?aL ?_; (case aR => exact (by skip; exact Kd.V_F (Kd.V_mono (ok' := (fun k_ => ((fun k_ => (P0_ k_ ∨ w.heap.size ≤ k_))) k_ ∧ some k_ ≠ (u6 : Value).ownBlock)) (HL111_0.out) (fun k_ hk => ⟨hk.1, hk.2⟩)))); (case aB => exact (kL HB)); (case aF => exact (fun k_ hk => (.inr (Nat.le_trans (below_size (kL HB)) hk)))); (case aO => exact (nB HO_6)); (case aS => exact (below_size (kL HB))); (case aL => have := LMc11.out; omega); intro v113 w12 ho hb hg hat; rw [← Ny112.out] at ho; have n0_ := am (Kd.V_afterv (ok := (fun k_ => (P0_ k_ ∨ w.heap.size ≤ k_))) (vB HO_25) hg hat); have n1_ := am (Kd.V_afterv (ok := (fun k_ => (P0_ k_ ∨ w.heap.size ≤ k_))) (vB HL111_0) hg hat); have n2_ := am hb; have n3_ := am (ho); clear HO_25; clear HL111_0; clear HB; clear HO_6; have HO_25 := n0_; have HL111_0 := n1_; have HB := n2_; have HO114 := n3_; clear n0_ n1_ n2_ n3_; clear ho hb hg hat)
          go_roundg k2
          case measure => have := HK1.out; have := HK2.out; omega
          case rel => exact ⟨(y112), (wrap64 (x27_2 + 1)), yS, H', ⟨by have := HK1.out; have := HK2.out; omega⟩, ⟨nB HO114⟩, ⟨vB HO_25⟩, ⟨(kL HB)⟩⟩
         ·rw [if_neg c11] at H
          exact absurd H (by simp)
        ·rw [if_neg c10] at H
         exact absurd H (by simp)
       ·rw [if_neg c9] at H
        exact absurd H (by simp)
      ·rw [if_neg c8] at H
       have c8b0 : decide (x27_2 < (l0.length : Int)) = false := decide_eq_false c8
       clear c8
       obtain rfl := Option.some.inj H
       go_wp2
       go_ret
       exact ⟨_, yE, nB HO_6, (kL HB)⟩
end Go.Proofs.Ytdelccahgchadaa.P
end
section
namespace Go.Proofs.Ytdelccahgchadaa.P
open Go.RowKit Go.Proofs.Ytdelccahgchadaa Go.Proofs.YtdelccahgchadaaW.PrintWords Go.Proofs.YtdelccahgchadaaW.PrintLast Go.Proofs.YtdelccahgchadaaW.PrintMore
set_option linter.unusedVariables false
set_option linter.unusedSimpArgs false
theorem tok_field_0 (a b c : Value) (w : World) : (Instr.field 71 (.agg #[a, b, c]) 0).run Try.prog w = .ok a w := by kernel_rfl
theorem tok_field_1 (a b c : Value) (w : World) : (Instr.field 71 (.agg #[a, b, c]) 1).run Try.prog w = .ok b w := by kernel_rfl
theorem tok_field_2 (a b c : Value) (w : World) : (Instr.field 71 (.agg #[a, b, c]) 2).run Try.prog w = .ok c w := by kernel_rfl
attribute [go_sem] tok_field_0 tok_field_1 tok_field_2
def parse_parser_look.f (s0_0 : List S71) (s0_1 s0_2 : Int) (s0_3 : Bool) (a1 : Int) : Option (Int × ByteArray × Int × Int × Int × Bool) :=
 if s0_3 = true then some (0, ⟨#[]⟩, s0_2, s0_1, s0_2, s0_3)
 else if wrap64 (s0_1 + a1) ≥ (s0_0.length : Int) then some (0, ⟨#[]⟩, s0_2, s0_1, s0_2, s0_3)
 else if 0 ≤ wrap64 (s0_1 + a1) then some ((rd_T71 s0_0 (wrap64 (s0_1 + a1))).f0, (rd_T71 s0_0 (wrap64 (s0_1 + a1))).f1, (rd_T71 s0_0 (wrap64 (s0_1 + a1))).f2, s0_1, s0_2, s0_3) else none
set_option maxRecDepth 100000 in
set_option maxHeartbeats 4000000 in
theorem look1 (g : Nat) (s0_0 : List S71) (s0_1 s0_2 : Int) (a1 : Int) (w0 w : World) (hI : IsS83 w0 w g s0_0 s0_1 s0_2 true) (hB : Below w0.heap.size w0 w) :
  Calls Try.prog 67 #[.pointer (some ⟨g, 0, none⟩), .int .i64 a1] w fun e w' => e = .returned (.agg #[.int .i64 0, .string ⟨#[]⟩, .int .i64 s0_2]) ∧ IsS83 w0 w' g s0_0 s0_1 s0_2 true ∧ Below w0.heap.size w0 w' ∧ KeepBut w w' g none := by
 have hlt := IsS83.lt hI
 have HI := Aside0.mk (IsS83.alloc hI (Obj.cells #[Value.int IntKind.i64 0, Value.string { data := #[] }, Value.int IntKind.i64 0] 71))
 have HK := Aside0.mk (keep_alloc (KeepBut.refl w g none) (Obj.cells #[Value.int IntKind.i64 0, Value.string { data := #[] }, Value.int IntKind.i64 0] 71))
 have HB := Aside0.mk (below_alloc hB (Obj.cells #[Value.int IntKind.i64 0, Value.string { data := #[] }, Value.int IntKind.i64 0] 71))
 have GE := Aside0.mk hB.size
 have hbk : (w.alloc (Obj.cells #[Value.int IntKind.i64 0, Value.string { data := #[] }, Value.int IntKind.i64 0] 71)).heap[w.heap.size]? = some (.cells #[.int .i64 0, .string ⟨#[]⟩, .int .i64 0] 71 (0, 0)) := by simpa using heap_alloc_new w _
 have BK := Aside0.mk hbk
 have NE := Aside0.mk (Nat.ne_of_lt hlt)
 clear hI hB hbk
 go_enter Try.func67, Try.ntmps67
 go_wp2_with fail
 obtain ⟨W, hW⟩ : ∃ W, W = w.alloc (Obj.cells #[Value.int IntKind.i64 0, Value.string { data := #[] }, Value.int IntKind.i64 0] 71) := ⟨_, rfl⟩
 rw [← hW] at HI HK HB BK ⊢
 obtain ⟨g4, hg4⟩ : ∃ g4, g4 = w.heap.size := ⟨_, rfl⟩
 rw [← hg4] at BK NE GE hlt ⊢
 have GW : Aside0 (w.heap.size ≤ g4) := ⟨Nat.le_of_eq hg4.symm⟩
 clear hW hg4 hlt
 obtain ⟨A0, c0, hb, hg, hr⟩ := HI.out
 have HR := Aside0.mk hr
 have x0 := cellS83_0 hb
 have x1 := cellS83_1 hb
 have x2 := cellS83_2 hb
 have x3 := cellS83_3 hb
 have z0 : W.cell? ⟨g4, 0, none⟩ = some (.int .i64 0) := (blk_cell BK.out 0).trans rfl
 have z1 : W.cell? ⟨g4, 1, none⟩ = some (.string ⟨#[]⟩) := (blk_cell BK.out 1).trans rfl
 have z2 : W.cell? ⟨g4, 2, none⟩ = some (.int .i64 0) := (blk_cell BK.out 2).trans rfl
 have f0 := blk_frozen BK.out 0
 have f1 := blk_frozen BK.out 1
 have f2 := blk_frozen BK.out 2
 clear hb hg hr
 go_quiet (fail)
 go_wp2
 obtain ⟨W3, hW3⟩ : ∃ W3, W3 = ((((W.drewN nq).setCell ⟨g4, 0, none⟩ (.int .i64 0)).setCell ⟨g4, 1, none⟩ (.string ⟨#[]⟩)).setCell ⟨g4, 2, none⟩ (.int .i64 s0_2)) := ⟨_, rfl⟩
 have b3 : W3.heap[g4]? = some (.cells #[.int .i64 0, .string ⟨#[]⟩, .int .i64 s0_2] 71 (0, 0)) := by
  rw [hW3]
  refine blk_put (cs := #[.int .i64 0, .string ⟨#[]⟩, .int .i64 0]) ?_ 2 _ rfl
  refine blk_put (cs := #[.int .i64 0, .string ⟨#[]⟩, .int .i64 0]) ?_ 1 _ rfl
  refine blk_put (cs := #[.int .i64 0, .string ⟨#[]⟩, .int .i64 0]) ?_ 0 _ rfl
  refine blk_drewN ?_ _
  exact BK.out
 have i3 : IsS83 w0 W3 g s0_0 s0_1 s0_2 true := by rw [hW3]; exact IsS83.far (IsS83.far (IsS83.far (IsS83.drewN HI.out _) NE.out _) NE.out _) NE.out _
 have l3 : Below w0.heap.size w0 W3 := by rw [hW3]; exact below_set (below_set (below_set (pw_below_drewN HB.out _) GE.out) GE.out) GE.out
 have k3 : KeepBut w W3 g none := by rw [hW3]; exact keep_far (keep_far (keep_far (keep_drewN HK.out _) GW.out _) GW.out _) GW.out _
 rw [← hW3]
 clear hW3
 have y0 : W3.cell? ⟨g4, 0, none⟩ = some (.int .i64 0) := (blk_cell b3 0).trans rfl
 have y1 : W3.cell? ⟨g4, 1, none⟩ = some (.string ⟨#[]⟩) := (blk_cell b3 1).trans rfl
 have y2 : W3.cell? ⟨g4, 2, none⟩ = some (.int .i64 s0_2) := (blk_cell b3 2).trans rfl
 refine bodyPost_ret (v := .agg #[.int .i64 0, .string ⟨#[]⟩, .int .i64 s0_2]) (by simp [results, Try.results67, go_sem, y0, y1, y2]) rfl ⟨rfl, i3, l3, k3⟩
set_option maxRecDepth 100000 in
set_option maxHeartbeats 4000000 in
theorem look2 (g : Nat) (s0_0 : List S71) (s0_1 s0_2 : Int) (a1 : Int) (w0 w : World) (hI : IsS83 w0 w g s0_0 s0_1 s0_2 false) (hB : Below w0.heap.size w0 w) (hge : (s0_0.length : Int) ≤ wrap64 (s0_1 + a1)) :
  Calls Try.prog 67 #[.pointer (some ⟨g, 0, none⟩), .int .i64 a1] w fun e w' => e = .returned (.agg #[.int .i64 0, .string ⟨#[]⟩, .int .i64 s0_2]) ∧ IsS83 w0 w' g s0_0 s0_1 s0_2 false ∧ Below w0.heap.size w0 w' ∧ KeepBut w w' g none := by
 have hlt := IsS83.lt hI
 have HI := Aside0.mk (IsS83.alloc hI (Obj.cells #[Value.int IntKind.i64 0, Value.string { data := #[] }, Value.int IntKind.i64 0] 71))
 have HK := Aside0.mk (keep_alloc (KeepBut.refl w g none) (Obj.cells #[Value.int IntKind.i64 0, Value.string { data := #[] }, Value.int IntKind.i64 0] 71))
 have HB := Aside0.mk (below_alloc hB (Obj.cells #[Value.int IntKind.i64 0, Value.string { data := #[] }, Value.int IntKind.i64 0] 71))
 have GE := Aside0.mk hB.size
 have hbk : (w.alloc (Obj.cells #[Value.int IntKind.i64 0, Value.string { data := #[] }, Value.int IntKind.i64 0] 71)).heap[w.heap.size]? = some (.cells #[.int .i64 0, .string ⟨#[]⟩, .int .i64 0] 71 (0, 0)) := by simpa using heap_alloc_new w _
 have BK := Aside0.mk hbk
 have NE := Aside0.mk (Nat.ne_of_lt hlt)
 clear hI hB hbk
 go_enter Try.func67, Try.ntmps67
 go_wp2_with fail
 obtain ⟨W, hW⟩ : ∃ W, W = w.alloc (Obj.cells #[Value.int IntKind.i64 0, Value.string { data := #[] }, Value.int IntKind.i64 0] 71) := ⟨_, rfl⟩
 rw [← hW] at HI HK HB BK ⊢
 obtain ⟨g4, hg4⟩ : ∃ g4, g4 = w.heap.size := ⟨_, rfl⟩
 rw [← hg4] at BK NE GE hlt ⊢
 have GW : Aside0 (w.heap.size ≤ g4) := ⟨Nat.le_of_eq hg4.symm⟩
 clear hW hg4 hlt
 obtain ⟨A0, c0, hb, hg, hr⟩ := HI.out
 have HR := Aside0.mk hr
 have x0 := cellS83_0 hb
 have x1 := cellS83_1 hb
 have x2 := cellS83_2 hb
 have x3 := cellS83_3 hb
 have z0 : W.cell? ⟨g4, 0, none⟩ = some (.int .i64 0) := (blk_cell BK.out 0).trans rfl
 have z1 : W.cell? ⟨g4, 1, none⟩ = some (.string ⟨#[]⟩) := (blk_cell BK.out 1).trans rfl
 have z2 : W.cell? ⟨g4, 2, none⟩ = some (.int .i64 0) := (blk_cell BK.out 2).trans rfl
 have f0 := blk_frozen BK.out 0
 have f1 := blk_frozen BK.out 1
 have f2 := blk_frozen BK.out 2
 clear hb hg hr
 have hd : decide ((s0_0.length : Int) ≤ wrap64 (s0_1 + a1)) = true := decide_eq_true hge
 have hd2 : decide ((s0_0.length : Int) ≤ IntKind.i64.wrap (s0_1 + a1)) = true := by rw [i64_w]; exact hd
 clear hge
 go_quiet (fail)
 go_wp2
 obtain ⟨W3, hW3⟩ : ∃ W3, W3 = ((((W.drewN nq).setCell ⟨g4, 0, none⟩ (.int .i64 0)).setCell ⟨g4, 1, none⟩ (.string ⟨#[]⟩)).setCell ⟨g4, 2, none⟩ (.int .i64 s0_2)) := ⟨_, rfl⟩
 have b3 : W3.heap[g4]? = some (.cells #[.int .i64 0, .string ⟨#[]⟩, .int .i64 s0_2] 71 (0, 0)) := by
  rw [hW3]
  refine blk_put (cs := #[.int .i64 0, .string ⟨#[]⟩, .int .i64 0]) ?_ 2 _ rfl
  refine blk_put (cs := #[.int .i64 0, .string ⟨#[]⟩, .int .i64 0]) ?_ 1 _ rfl
  refine blk_put (cs := #[.int .i64 0, .string ⟨#[]⟩, .int .i64 0]) ?_ 0 _ rfl
  refine blk_drewN ?_ _
  exact BK.out
 have i3 : IsS83 w0 W3 g s0_0 s0_1 s0_2 false := by rw [hW3]; exact IsS83.far (IsS83.far (IsS83.far (IsS83.drewN HI.out _) NE.out _) NE.out _) NE.out _
 have l3 : Below w0.heap.size w0 W3 := by rw [hW3]; exact below_set (below_set (below_set (pw_below_drewN HB.out _) GE.out) GE.out) GE.out
 have k3 : KeepBut w W3 g none := by rw [hW3]; exact keep_far (keep_far (keep_far (keep_drewN HK.out _) GW.out _) GW.out _) GW.out _
 rw [← hW3]
 clear hW3
 have y0 : W3.cell? ⟨g4, 0, none⟩ = some (.int .i64 0) := (blk_cell b3 0).trans rfl
 have y1 : W3.cell? ⟨g4, 1, none⟩ = some (.string ⟨#[]⟩) := (blk_cell b3 1).trans rfl
 have y2 : W3.cell? ⟨g4, 2, none⟩ = some (.int .i64 s0_2) := (blk_cell b3 2).trans rfl
 refine bodyPost_ret (v := .agg #[.int .i64 0, .string ⟨#[]⟩, .int .i64 s0_2]) (by simp [results, Try.results67, go_sem, y0, y1, y2]) rfl ⟨rfl, i3, l3, k3⟩
set_option maxRecDepth 100000 in
set_option maxHeartbeats 4000000 in
theorem look3 (g : Nat) (s0_0 : List S71) (s0_1 s0_2 : Int) (a1 : Int) (w0 w : World) (hI : IsS83 w0 w g s0_0 s0_1 s0_2 false) (hB : Below w0.heap.size w0 w) (h0 : 0 ≤ wrap64 (s0_1 + a1)) (hlt0 : wrap64 (s0_1 + a1) < (s0_0.length : Int)) :
  Calls Try.prog 67 #[.pointer (some ⟨g, 0, none⟩), .int .i64 a1] w fun e w' => e = .returned (.agg #[.int .i64 (rd_T71 s0_0 (wrap64 (s0_1 + a1))).f0, .string (rd_T71 s0_0 (wrap64 (s0_1 + a1))).f1, .int .i64 (rd_T71 s0_0 (wrap64 (s0_1 + a1))).f2]) ∧ IsS83 w0 w' g s0_0 s0_1 s0_2 false ∧ Below w0.heap.size w0 w' ∧ KeepBut w w' g none := by
 have hlt := IsS83.lt hI
 have HI := Aside0.mk (IsS83.alloc hI (Obj.cells #[Value.int IntKind.i64 0, Value.string { data := #[] }, Value.int IntKind.i64 0] 71))
 have HK := Aside0.mk (keep_alloc (KeepBut.refl w g none) (Obj.cells #[Value.int IntKind.i64 0, Value.string { data := #[] }, Value.int IntKind.i64 0] 71))
 have HB := Aside0.mk (below_alloc hB (Obj.cells #[Value.int IntKind.i64 0, Value.string { data := #[] }, Value.int IntKind.i64 0] 71))
 have GE := Aside0.mk hB.size
 have hbk : (w.alloc (Obj.cells #[Value.int IntKind.i64 0, Value.string { data := #[] }, Value.int IntKind.i64 0] 71)).heap[w.heap.size]? = some (.cells #[.int .i64 0, .string ⟨#[]⟩, .int .i64 0] 71 (0, 0)) := by simpa using heap_alloc_new w _
 have BK := Aside0.mk hbk
 have NE := Aside0.mk (Nat.ne_of_lt hlt)
 clear hI hB hbk
 go_enter Try.func67, Try.ntmps67
 go_wp2_with fail
 obtain ⟨W, hW⟩ : ∃ W, W = w.alloc (Obj.cells #[Value.int IntKind.i64 0, Value.string { data := #[] }, Value.int IntKind.i64 0] 71) := ⟨_, rfl⟩
 rw [← hW] at HI HK HB BK ⊢
 obtain ⟨g4, hg4⟩ : ∃ g4, g4 = w.heap.size := ⟨_, rfl⟩
 rw [← hg4] at BK NE GE hlt ⊢
 have GW : Aside0 (w.heap.size ≤ g4) := ⟨Nat.le_of_eq hg4.symm⟩
 clear hW hg4 hlt
 obtain ⟨A0, c0, hb, hg, hr⟩ := HI.out
 have HR := Aside0.mk hr
 have x0 := cellS83_0 hb
 have x1 := cellS83_1 hb
 have x2 := cellS83_2 hb
 have x3 := cellS83_3 hb
 have z0 : W.cell? ⟨g4, 0, none⟩ = some (.int .i64 0) := (blk_cell BK.out 0).trans rfl
 have z1 : W.cell? ⟨g4, 1, none⟩ = some (.string ⟨#[]⟩) := (blk_cell BK.out 1).trans rfl
 have z2 : W.cell? ⟨g4, 2, none⟩ = some (.int .i64 0) := (blk_cell BK.out 2).trans rfl
 have f0 := blk_frozen BK.out 0
 have f1 := blk_frozen BK.out 1
 have f2 := blk_frozen BK.out 2
 clear hb hg hr
 have hd : decide ((s0_0.length : Int) ≤ wrap64 (s0_1 + a1)) = false := decide_eq_false (by omega)
 have hd2 : decide ((s0_0.length : Int) ≤ IntKind.i64.wrap (s0_1 + a1)) = false := by rw [i64_w]; exact hd
 have q0 := eq_true h0
 have q1 := eq_true hlt0
 obtain ⟨ad, ea, e0, e1, e2⟩ := at_T71 (Kd.C_below HR.out HB.out) (wrap64 (s0_1 + a1)) h0 hlt0
 cases ea
 go_quiet (fail)
 go_wp2_with fail
 go_region
 go_wp2
 obtain ⟨v0, hv0⟩ : ∃ v0, v0 = (rd_T71 s0_0 (wrap64 (s0_1 + a1))).f0 := ⟨_, rfl⟩
 obtain ⟨v1, hv1⟩ : ∃ v1, v1 = (rd_T71 s0_0 (wrap64 (s0_1 + a1))).f1 := ⟨_, rfl⟩
 obtain ⟨v2, hv2⟩ : ∃ v2, v2 = (rd_T71 s0_0 (wrap64 (s0_1 + a1))).f2 := ⟨_, rfl⟩
 rw [← hv0, ← hv1, ← hv2]
 obtain ⟨W3, hW3⟩ : ∃ W3, W3 = ((((W.drewN (nq + 1)).setCell ⟨g4, 0, none⟩ (.int .i64 v0)).setCell ⟨g4, 1, none⟩ (.string v1)).setCell ⟨g4, 2, none⟩ (.int .i64 v2)) := ⟨_, rfl⟩
 have b3 : W3.heap[g4]? = some (.cells #[.int .i64 v0, .string v1, .int .i64 v2] 71 (0, 0)) := by
  rw [hW3]
  refine blk_put (cs := #[.int .i64 v0, .string v1, .int .i64 0]) ?_ 2 _ rfl
  refine blk_put (cs := #[.int .i64 v0, .string ⟨#[]⟩, .int .i64 0]) ?_ 1 _ rfl
  refine blk_put (cs := #[.int .i64 0, .string ⟨#[]⟩, .int .i64 0]) ?_ 0 _ rfl
  refine blk_drewN ?_ _
  exact BK.out
 have i3 : IsS83 w0 W3 g s0_0 s0_1 s0_2 false := by rw [hW3]; exact IsS83.far (IsS83.far (IsS83.far (IsS83.drewN HI.out _) NE.out _) NE.out _) NE.out _
 have l3 : Below w0.heap.size w0 W3 := by rw [hW3]; exact below_set (below_set (below_set (pw_below_drewN HB.out _) GE.out) GE.out) GE.out
 have k3 : KeepBut w W3 g none := by rw [hW3]; exact keep_far (keep_far (keep_far (keep_drewN HK.out _) GW.out _) GW.out _) GW.out _
 rw [← hW3]
 clear hW3
 have y0 : W3.cell? ⟨g4, 0, none⟩ = some (.int .i64 v0) := (blk_cell b3 0).trans rfl
 have y1 : W3.cell? ⟨g4, 1, none⟩ = some (.string v1) := (blk_cell b3 1).trans rfl
 have y2 : W3.cell? ⟨g4, 2, none⟩ = some (.int .i64 v2) := (blk_cell b3 2).trans rfl
 refine bodyPost_ret (v := .agg #[.int .i64 v0, .string v1, .int .i64 v2]) (by simp [results, Try.results67, go_sem, y0, y1, y2]) rfl ⟨by rw [hv0, hv1, hv2], i3, l3, k3⟩
theorem parse_parser_look.calls (g : Nat) (s0_0 : List S71) (s0_1 s0_2 : Int) (s0_3 : Bool) (a1 : Int) (r1 : Int) (r2 : ByteArray) (r3 r4 r5 : Int) (r6 : Bool) (w0 w : World) (hI : IsS83 w0 w g s0_0 s0_1 s0_2 s0_3) (hB : Below w0.heap.size w0 w) (h : parse_parser_look.f s0_0 s0_1 s0_2 s0_3 a1 = some (r1, r2, r3, r4, r5, r6)) :
  Calls Try.prog 67 #[.pointer (some ⟨g, 0, none⟩), .int .i64 a1] w fun e w' => e = .returned (.agg #[.int .i64 r1, .string r2, .int .i64 r3]) ∧ IsS83 w0 w' g s0_0 r4 r5 r6 ∧ Below w0.heap.size w0 w' ∧ KeepBut w w' g none := by
 unfold parse_parser_look.f at h
 cases s0_3 with
 | true =>
  rw [if_pos rfl] at h
  simp only [Option.some.injEq, Prod.mk.injEq] at h
  obtain ⟨rfl, rfl, rfl, rfl, rfl, rfl⟩ := h
  exact look1 g s0_0 _ _ a1 w0 w hI hB
 | false =>
  rw [if_neg (by decide)] at h
  by_cases h1 : wrap64 (s0_1 + a1) ≥ (s0_0.length : Int)
  ·rw [if_pos h1] at h
   simp only [Option.some.injEq, Prod.mk.injEq] at h
   obtain ⟨rfl, rfl, rfl, rfl, rfl, rfl⟩ := h
   exact look2 g s0_0 _ _ a1 w0 w hI hB h1
  ·rw [if_neg h1] at h
   by_cases h2 : 0 ≤ wrap64 (s0_1 + a1)
   ·rw [if_pos h2] at h
    simp only [Option.some.injEq, Prod.mk.injEq] at h
    obtain ⟨rfl, rfl, rfl, rfl, rfl, rfl⟩ := h
    exact look3 g s0_0 _ _ a1 w0 w hI hB h2 (Int.not_le.1 h1)
   ·rw [if_neg h2] at h
    cases h
abbrev EX_F := List S71 → Int → Int → Bool → Option (List S25 × Int × Int × Bool)
structure EX_C (EXF : EX_F) : Prop where
 out : ∀ (g : Nat) (s0_0 : List S71) (s0_1 s0_2 : Int) (s0_3 : Bool) (r1 : List S25) (r2 r3 : Int) (r4 : Bool) (w0 w : World) (_ : IsS83 w0 w g s0_0 s0_1 s0_2 s0_3) (_ : Below w0.heap.size w0 w) (_ : EXF s0_0 s0_1 s0_2 s0_3 = some (r1, r2, r3, r4)),
  Calls Try.prog 93 #[.pointer (some ⟨g, 0, none⟩)] w fun e w' => ∃ v0_ : Value, e = .returned (v0_) ∧ Kd.N k25 25 w' w.heap.size (fun k_ => (w.heap.size ≤ k_)) v0_ r1 ∧ IsS83 w0 w' g s0_0 r2 r3 r4 ∧ Below w0.heap.size w0 w' ∧ KeepBut w w' g none
end Go.Proofs.Ytdelccahgchadaa.P
end
section
namespace Go.Proofs.Ytdelccahgchadaa.P
open Go.RowKit Go.Proofs.YtdelccahgchadaaW.PrintWords Go.Proofs.YtdelccahgchadaaW.PrintLast Go.Proofs.YtdelccahgchadaaW.PrintMore
attribute [local go_sem] max2_int min2_int max_two min_two max_three min_three max_four min_four   
set_option linter.unusedVariables false
set_option linter.unusedSimpArgs false
def tree_Node.f (k : Nat) (a0_0 : Int) (a0_1 : ByteArray) (a0_2 : ByteArray) (a0_3 : ByteArray) (l0_4 : List ByteArray) (l1 : List (List (S25))) : Option ((List (S25))) := (some (([(⟨a0_0, a0_1, a0_2, a0_3, l0_4⟩ : S25)] : List (S25)) : List (S25))).bind fun y116 => ((api_Node_48.f k l1).bind fun t119 => (if y116.length + t119.length < 1759218604441 then (some (y116 ++ t119)) else (none)))
theorem tree_Node.mono : ∀ a0 a1 a2 a3 a4 a5 k, LeO (tree_Node.f k a0 a1 a2 a3 a4 a5) (tree_Node.f (k + 1) a0 a1 a2 a3 a4 a5) := by
 intro a0 a1 a2 a3 a4 a5 k
 unfold tree_Node.f
 with_reducible repeat' first
   | exact api_Node_48.mono _ _
   | exact LeO.refl _
   | exact LeO.none _
   | refine LeO.ite ?_ ?_
   | refine LeO.bind ?_ (fun _ => ?_)
set_option maxHeartbeats 8000000 in
set_option maxRecDepth 100000 in
theorem tree_Node.calls (k : Nat) (a0_0 : Int) (a0_1 : ByteArray) (a0_2 : ByteArray) (a0_3 : ByteArray) (P0_4_ : Nat → Prop) (A0_4 : Option Addr) (c0_4 : Nat) (l0_4 : List ByteArray) (P1_ : Nat → Prop) (A1 : Option Addr) (c1 : Nat) (l1 : List (List (S25))) (r : List (S25)) (w : World) (hs0_4 : Kd.V Kd.string 9 w w.heap.size (fun k_ => P0_4_ k_) (.slice A0_4 l0_4.length c0_4) l0_4) (hs1 : Kd.V (Kd.slice 25 k25) 22 w w.heap.size (fun k_ => P1_ k_) (.slice A1 l1.length c1) l1) (h : tree_Node.f k a0_0 a0_1 a0_2 a0_3 l0_4 l1 = some r) :
  Calls Try.prog 32 #[.agg #[.int .i64 a0_0, .string a0_1, .string a0_2, .string a0_3, .slice A0_4 l0_4.length c0_4], .slice A1 l1.length c1] w fun e w' => ∃ v0_ : Value, e = .returned (v0_) ∧ Kd.N k25 25 w' w.heap.size (fun k_ => ((P0_4_ k_ ∨ P1_ k_) ∨ w.heap.size ≤ k_)) v0_ r ∧ Below w.heap.size w w' := by
 have hu25 := Try.underlying25
 have HO0_4 := am (show Kd.V Kd.string 9 w w.heap.size (fun k_ => ((P0_4_ k_ ∨ P1_ k_) ∨ w.heap.size ≤ k_)) (.slice A0_4 l0_4.length c0_4) l0_4 from Kd.V_mono hs0_4 (fun k_ hk => .inl (.inl hk)))
 have HO1 := am (show Kd.V (Kd.slice 25 k25) 22 w w.heap.size (fun k_ => ((P0_4_ k_ ∨ P1_ k_) ∨ w.heap.size ≤ k_)) (.slice A1 l1.length c1) l1 from Kd.V_mono hs1 (fun k_ hk => .inl (.inr hk)))
 have HB := am (Below.refl w.heap.size w)
 unfold tree_Node.f at h
 have H := h
 clear h
 obtain ⟨y116, hy116⟩ : ∃ y_ : List (S25), y_ = (([(⟨a0_0, a0_1, a0_2, a0_3, l0_4⟩ : S25)] : List (S25))) := ⟨_, rfl⟩
 replace H : ((api_Node_48.f k l1).bind fun t119 => (if y116.length + t119.length < 1759218604441 then (some (y116 ++ t119)) else (none))) = some r := by first | (rw [hy116]; with_reducible exact H) | (have H2_ := (Option.bind_some _ _).symm.trans H; rw [hy116]; with_reducible exact H2_) | (have H2_ := (Option.bind_some _ _).symm.trans H; with_reducible exact H2_) | with_reducible exact H | (rw [hy116]; exact H) | exact H
 have Ny116 := am hy116
 clear hy116
 obtain ⟨t119, A3, H⟩ := bO H
 try dsimp only at H
 by_cases c4 : y116.length + t119.length < 1759218604441
 ·rw [if_pos c4] at H
  have LMc4 := am c4
  clear c4
  obtain ⟨y122, hy122⟩ : ∃ y_ : List (S25), y_ = (y116 ++ t119) := ⟨_, rfl⟩
  replace H : (some y122) = some r := by first | (rw [hy122]; with_reducible exact H) | (have H2_ := (Option.bind_some _ _).symm.trans H; rw [hy122]; with_reducible exact H2_) | (have H2_ := (Option.bind_some _ _).symm.trans H; with_reducible exact H2_) | with_reducible exact H | (rw [hy122]; exact H) | exact H
  have Ny122 := am hy122
  clear hy122
  obtain rfl := Option.some.inj H
  go_enter Try.func32, Try.ntmps32
  try go_wp2_with ((with_reducible refine gD 2 rfl ?_); refine bx 2 #[.int .i64 a0_0, .string a0_1, .string a0_2, .string a0_3, .slice A0_4 l0_4.length c0_4] 25 ?_; intro gb115 hg w5 hbox hb; replace HO0_4 := am (Kd.V_below (Kd.V_elderB (vB HO0_4) gb115 (Nat.le_of_eq hg.symm)) hb); replace HO1 := am (Kd.V_below (Kd.V_elderB (vB HO1) gb115 (Nat.le_of_eq hg.symm)) hb); have BK115 := am hbox; have GW115 := am (geL hg (kL HB)); replace HB := am (below_step (kL HB) hb); have GE115 := GW115; clear hb hbox hg)
  replace HO0_4 := am (Kd.V_drew HO0_4.out)
  replace HO1 := am (Kd.V_drew HO1.out)
  replace BK115 := am (bD BK115.out)
  replace HB := am (lD HB.out)
  refine start_ (n := 6) (S := fun w' => w'.cell? ⟨gb115, 0, none⟩ = some (.int .i64 a0_0) ∧ w'.cell? ⟨gb115, 1, none⟩ = some (.string a0_1) ∧ w'.cell? ⟨gb115, 2, none⟩ = some (.string a0_2) ∧ w'.cell? ⟨gb115, 3, none⟩ = some (.string a0_3) ∧ w'.cell? ⟨gb115, 4, none⟩ = some (.slice A0_4 l0_4.length c0_4)) (ds := []) #[false, false, false, false, false, false] (by kernel_rfl) rfl rfl ⟨(blk_cell BK115.out 0).trans rfl, (blk_cell BK115.out 1).trans rfl, (blk_cell BK115.out 2).trans rfl, (blk_cell BK115.out 3).trans rfl, (blk_cell BK115.out 4).trans rfl⟩ (fun hHeld => ?_)
  generalize w5.drew = w6 at HO0_4 HO1 BK115 HB hHeld ⊢
  refine pure_ (i := 2) (N := some 7) (v := ?_) (a' := ?_) #[false, false, true, false, false, false] rfl rfl (by kernel_rfl) (fun _ _ _ h => h) (Or.inl ⟨by rfl, ?_⟩) ?_ ?_
  rotate_left
  ·intro w'
   go_simp
   with_reducible rfl
  rotate_left
  ·simp only [Act.put, zT, z0, zS, i64_w, i32_w]
   rfl
  refine take_ (i := 0) (N := some 5) (v := ?_) (a' := ?_) #[true, false, true, false, false, false] rfl rfl (by kernel_rfl) (fun _ _ _ h => h) (Or.inl ⟨by rfl, ?_⟩) hHeld ?_ ?_
  rotate_left
  ·rintro w' ⟨s0, s1, s2, s3, s4⟩
   go_simp
   with_reducible rfl
  rotate_left
  ·simp only [Act.put, zT, z0, zS, i64_w, i32_w]
   rfl
  refine join_ (σ := Value × Value) 2 #[true, true, true, true, false, false] (fun s_ => [(6, s_.1), (8, s_.2)]) (fun s_ w' => (w'.cell? ⟨gb115, 0, none⟩ = some (.int .i64 a0_0) ∧ w'.cell? ⟨gb115, 1, none⟩ = some (.string a0_1) ∧ w'.cell? ⟨gb115, 2, none⟩ = some (.string a0_2) ∧ w'.cell? ⟨gb115, 3, none⟩ = some (.string a0_3) ∧ w'.cell? ⟨gb115, 4, none⟩ = some (.slice A0_4 l0_4.length c0_4)) ∧ (Kd.V Kd.string 9 w' w.heap.size (fun k_ => ((P0_4_ k_ ∨ P1_ k_) ∨ w.heap.size ≤ k_) ∧ some k_ ≠ (s_.1 : Value).ownBlock ∧ some k_ ≠ (s_.2 : Value).ownBlock ∧ k_ ≠ gb115) (.slice A0_4 l0_4.length c0_4) l0_4) ∧ (Kd.V (Kd.slice 25 k25) 22 w' w.heap.size (fun k_ => ((P0_4_ k_ ∨ P1_ k_) ∨ w.heap.size ≤ k_) ∧ some k_ ≠ (s_.1 : Value).ownBlock ∧ some k_ ≠ (s_.2 : Value).ownBlock ∧ k_ ≠ gb115) (.slice A1 l1.length c1) l1) ∧ (Kd.N k25 25 w' w.heap.size (fun k_ => ((P0_4_ k_ ∨ P1_ k_) ∨ w.heap.size ≤ k_) ∧ some k_ ≠ (s_.2 : Value).ownBlock ∧ k_ ≠ gb115) s_.1 y116) ∧ (Kd.N k25 25 w' w.heap.size (fun k_ => ((P0_4_ k_ ∨ P1_ k_) ∨ w.heap.size ≤ k_) ∧ some k_ ≠ (s_.1 : Value).ownBlock ∧ k_ ≠ gb115) s_.2 t119) ∧ (w'.heap[gb115]? = some (.cells #[.int .i64 a0_0, .string a0_1, .string a0_2, .string a0_3, .slice A0_4 l0_4.length c0_4] 25 (0, 0))) ∧ (Below w.heap.size w w')) ?_ ?_
  rotate_left
  ·intro hCont
   refine two_ (i := 1) (j := 3) (Ni := some 6) (Nj := some 8) #[true, true, true, false, false, false] #[true, false, true, true, false, false] rfl rfl rfl rfl (by kernel_rfl) (by decide) (by decide) (fun K hK => ?_) (fun K hK => ?_)
   ·skip
    refine Kd.N_lit_step k25 _ 25 ?hg (N' := 6) ?hd (xs := ([(⟨a0_0, a0_1, a0_2, a0_3, l0_4⟩ : S25)] : List (S25))) (inner := [.int .i64 a0_0, .string a0_1, .string a0_2, .string a0_3, .slice A0_4 l0_4.length c0_4]) (ok := (fun k_ => ((P0_4_ k_ ∨ P1_ k_) ∨ w.heap.size ≤ k_) ∧ k_ ≠ gb115)) (okp := (fun k_ => ((P0_4_ k_ ∨ P1_ k_) ∨ w.heap.size ≤ k_) ∧ k_ ≠ gb115)) ?hr ?hp (fun _ hk => hk) ((show ∀ k_, w6.heap.size ≤ k_ → (fun k_ => ((P0_4_ k_ ∨ P1_ k_) ∨ w.heap.size ≤ k_) ∧ k_ ≠ gb115) k_ from fun k_ hk => ⟨(.inr (Nat.le_trans (below_size (kL HB)) hk)), Kd.freshB (g := gb115) (o := .cells #[.int .i64 a0_0, .string a0_1, .string a0_2, .string a0_3, .slice A0_4 l0_4.length c0_4] 25 (0, 0)) (kB BK115) k_ hk⟩) _ (Nat.le_refl _)) (Below.refl _ _) (Nat.le_refl _) (by simp) ?_; (case hd => rfl); (case hg => rfl); (case hr => first | (go_simp; done) | (go_simp; rfl)); (case hp => exact (Reps.c5 (show Kd.FK k25 _ _ (⟨a0_0, a0_1, a0_2, a0_3, l0_4⟩ : S25) [.int .i64 a0_0, .string a0_1, .string a0_2, .string a0_3, .slice A0_4 l0_4.length c0_4] from (k25_mkF _ _ (⟨a0_0, a0_1, a0_2, a0_3, l0_4⟩ : S25) (Kd.V_reads' (Kd.V_mono (ok' := (fun k_ => ((P0_4_ k_ ∨ P1_ k_) ∨ w.heap.size ≤ k_) ∧ k_ ≠ gb115)) (HO0_4.out) (fun k_ hk => ⟨hk.1, hk.2⟩))).2.1 (Kd.V_F (Kd.V_mono (ok' := (fun k_ => ((P0_4_ k_ ∨ P1_ k_) ∨ w.heap.size ≤ k_) ∧ k_ ≠ gb115)) (HO0_4.out) (fun k_ hk => ⟨hk.1, hk.2⟩))))) (Reps.none _ _)))
    intro v117 w7 ho8 hb hg_ hnew_
    clear hg_ hnew_
    (first | rw [← Ny116.out] at ho8 | (simp only [Int.reduceToNat] at ho8; rw [← Ny116.out] at ho8))
    replace HO0_4 := am (Kd.V_elder' (vB HO0_4) (Kd.N_base ho8) hb)
    replace HO1 := am (Kd.V_elder' (vB HO1) (Kd.N_base ho8) hb)
    have HO118 := am (Kd.N_lower ho8 (below_size (kL HB)))
    replace BK115 := am (bB (kB BK115) hb)
    replace HB := am (below_step (kL HB) hb)
    clear hb ho8
    refine hK.out _ _ ⟨(blk_cell BK115.out 0).trans rfl, (blk_cell BK115.out 1).trans rfl, (blk_cell BK115.out 2).trans rfl, (blk_cell BK115.out 3).trans rfl, (blk_cell BK115.out 4).trans rfl⟩ (fun hHeld => ?_)
    clear hK K
    refine norm_ (a' := ?_) ?_ ?_
    rotate_left
    ·show Act.put _ (some 6) _ = _
     simp only [Act.put, zT, z0, zS, i64_w, i32_w]
     rfl
    refine one_ (i := 3) (N := some 8) #[true, true, true, true, false, false] rfl rfl (by kernel_rfl) (by decide) (fun K hK => ?_)
    refine goes_ Try.func48 (by kernel_rfl) rfl #[.slice A1 l1.length c1] (by rfl) rfl rfl yA ?_
    with_reducible refine (api_Node_48.calls k (fun k_ => ((((P0_4_ k_ ∨ P1_ k_) ∨ w.heap.size ≤ k_) ∧ k_ ≠ gb115) ∧ some k_ ≠ (v117 : Value).ownBlock)) _ _ l1 t119 _ ?side1 A3.out).mono ?_
    (case side1 => exact HO1.out)
    rintro e w9 ⟨v120, rfl, ho0, hb⟩
    refine ⟨_, rfl, ?_⟩
    replace HO0_4 := am (Kd.V_elder' (vB HO0_4) (Kd.N_base ho0) hb)
    replace HO1 := am (Kd.V_elder' (vB HO1) (Kd.N_base ho0) hb)
    have HO121 := am (Kd.N_lower (Kd.N_mono (ok' := fun k_ => ((P0_4_ k_ ∨ P1_ k_) ∨ w.heap.size ≤ k_) ∧ some k_ ≠ (v117 : Value).ownBlock ∧ k_ ≠ gb115) ho0 (fun k_ hk_ => ⟨Or.elim hk_ (fun hs_ => hs_.1.1) (fun hn_ => (.inr (Nat.le_trans (below_size (kL HB)) hn_))), Or.elim hk_ (fun hs_ => hs_.2) (fun hn_ => (Kd.fresh' (Kd.N_lt (nB HO118)) k_ hn_)), Or.elim hk_ (fun hs_ => hs_.1.2) (fun hn_ => (Kd.freshB (g := gb115) (o := .cells #[.int .i64 a0_0, .string a0_1, .string a0_2, .string a0_3, .slice A0_4 l0_4.length c0_4] 25 (0, 0)) (kB BK115) k_ hn_))⟩)) (below_size (kL HB)))
    replace HO118 := am (Kd.N_elder' (nB HO118) (Kd.N_base ho0) hb)
    replace BK115 := am (bB (kB BK115) hb)
    replace HB := am (below_step (kL HB) hb)
    (try clear hb)
    (try clear hb2)
    (try clear hk)
    (try clear hi)
    (try clear ho0)
    refine hK.out _ _ ⟨(blk_cell BK115.out 0).trans rfl, (blk_cell BK115.out 1).trans rfl, (blk_cell BK115.out 2).trans rfl, (blk_cell BK115.out 3).trans rfl, (blk_cell BK115.out 4).trans rfl⟩ (fun hHeld => ?_)
    clear hK K
    refine norm_ (a' := ?_) ?_ ?_
    rotate_left
    ·show Act.put _ (some 8) _ = _
     simp only [Act.put, zT, z0, zS, i64_w, i32_w]
     rfl
    exact norm_ (by simp only [putAll, Act.put, zT, z0, zS]) (hCont (v117, v120) _ ⟨hHeld, (Kd.V_mono (vB HO0_4) (fun _ hk => ⟨hk.1.1.1, ⟨hk.1.2, ⟨hk.2, hk.1.1.2⟩⟩⟩)), (Kd.V_mono (vB HO1) (fun _ hk => ⟨hk.1.1.1, ⟨hk.1.2, ⟨hk.2, hk.1.1.2⟩⟩⟩)), (Kd.N_mono (nB HO118) (fun _ hk => ⟨hk.1.1, ⟨hk.2, hk.1.2⟩⟩)), (nB HO121), (kB BK115), (kL HB)⟩)
   ·skip
    refine goes_ Try.func48 (by kernel_rfl) rfl #[.slice A1 l1.length c1] (by rfl) rfl rfl yA ?_
    with_reducible refine (api_Node_48.calls k (fun k_ => (((P0_4_ k_ ∨ P1_ k_) ∨ w.heap.size ≤ k_) ∧ k_ ≠ gb115)) _ _ l1 t119 _ ?side1 A3.out).mono ?_
    (case side1 => exact HO1.out)
    rintro e w7 ⟨v120, rfl, ho0, hb⟩
    refine ⟨_, rfl, ?_⟩
    replace HO0_4 := am (Kd.V_elder' (vB HO0_4) (Kd.N_base ho0) hb)
    replace HO1 := am (Kd.V_elder' (vB HO1) (Kd.N_base ho0) hb)
    have HO121 := am (Kd.N_lower (Kd.N_mono (ok' := fun k_ => ((P0_4_ k_ ∨ P1_ k_) ∨ w.heap.size ≤ k_) ∧ k_ ≠ gb115) ho0 (fun k_ hk_ => ⟨Or.elim hk_ (fun hs_ => hs_.1) (fun hn_ => (.inr (Nat.le_trans (below_size (kL HB)) hn_))), Or.elim hk_ (fun hs_ => hs_.2) (fun hn_ => (Kd.freshB (g := gb115) (o := .cells #[.int .i64 a0_0, .string a0_1, .string a0_2, .string a0_3, .slice A0_4 l0_4.length c0_4] 25 (0, 0)) (kB BK115) k_ hn_))⟩)) (below_size (kL HB)))
    replace BK115 := am (bB (kB BK115) hb)
    replace HB := am (below_step (kL HB) hb)
    (try clear hb)
    (try clear hb2)
    (try clear hk)
    (try clear hi)
    (try clear ho0)
    refine hK.out _ _ ⟨(blk_cell BK115.out 0).trans rfl, (blk_cell BK115.out 1).trans rfl, (blk_cell BK115.out 2).trans rfl, (blk_cell BK115.out 3).trans rfl, (blk_cell BK115.out 4).trans rfl⟩ (fun hHeld => ?_)
    clear hK K
    refine norm_ (a' := ?_) ?_ ?_
    rotate_left
    ·show Act.put _ (some 8) _ = _
     simp only [Act.put, zT, z0, zS, i64_w, i32_w]
     rfl
    refine one_ (i := 1) (N := some 6) #[true, true, true, true, false, false] rfl rfl (by kernel_rfl) (by decide) (fun K hK => ?_)
    refine Kd.N_lit_step k25 _ 25 ?hg (N' := 6) ?hd (xs := ([(⟨a0_0, a0_1, a0_2, a0_3, l0_4⟩ : S25)] : List (S25))) (inner := [.int .i64 a0_0, .string a0_1, .string a0_2, .string a0_3, .slice A0_4 l0_4.length c0_4]) (ok := (fun k_ => ((P0_4_ k_ ∨ P1_ k_) ∨ w.heap.size ≤ k_) ∧ some k_ ≠ (v120 : Value).ownBlock ∧ k_ ≠ gb115)) (okp := (fun k_ => ((P0_4_ k_ ∨ P1_ k_) ∨ w.heap.size ≤ k_) ∧ some k_ ≠ (v120 : Value).ownBlock ∧ k_ ≠ gb115)) ?hr ?hp (fun _ hk => hk) ((show ∀ k_, w7.heap.size ≤ k_ → (fun k_ => ((P0_4_ k_ ∨ P1_ k_) ∨ w.heap.size ≤ k_) ∧ some k_ ≠ (v120 : Value).ownBlock ∧ k_ ≠ gb115) k_ from fun k_ hk => ⟨(.inr (Nat.le_trans (below_size (kL HB)) hk)), Kd.fresh' (Kd.N_lt (nB HO121)) k_ hk, Kd.freshB (g := gb115) (o := .cells #[.int .i64 a0_0, .string a0_1, .string a0_2, .string a0_3, .slice A0_4 l0_4.length c0_4] 25 (0, 0)) (kB BK115) k_ hk⟩) _ (Nat.le_refl _)) (Below.refl _ _) (Nat.le_refl _) (by simp) ?_; (case hd => rfl); (case hg => rfl); (case hr => first | (go_simp; done) | (go_simp; rfl)); (case hp => exact (Reps.c5 (show Kd.FK k25 _ _ (⟨a0_0, a0_1, a0_2, a0_3, l0_4⟩ : S25) [.int .i64 a0_0, .string a0_1, .string a0_2, .string a0_3, .slice A0_4 l0_4.length c0_4] from (k25_mkF _ _ (⟨a0_0, a0_1, a0_2, a0_3, l0_4⟩ : S25) (Kd.V_reads' (Kd.V_mono (ok' := (fun k_ => ((P0_4_ k_ ∨ P1_ k_) ∨ w.heap.size ≤ k_) ∧ some k_ ≠ (v120 : Value).ownBlock ∧ k_ ≠ gb115)) (HO0_4.out) (fun k_ hk => ⟨hk.1.1, ⟨hk.2, hk.1.2⟩⟩))).2.1 (Kd.V_F (Kd.V_mono (ok' := (fun k_ => ((P0_4_ k_ ∨ P1_ k_) ∨ w.heap.size ≤ k_) ∧ some k_ ≠ (v120 : Value).ownBlock ∧ k_ ≠ gb115)) (HO0_4.out) (fun k_ hk => ⟨hk.1.1, ⟨hk.2, hk.1.2⟩⟩))))) (Reps.none _ _)))
    intro v117 w8 ho9 hb hg_ hnew_
    clear hg_ hnew_
    (first | rw [← Ny116.out] at ho9 | (simp only [Int.reduceToNat] at ho9; rw [← Ny116.out] at ho9))
    replace HO0_4 := am (Kd.V_elder' (vB HO0_4) (Kd.N_base ho9) hb)
    replace HO1 := am (Kd.V_elder' (vB HO1) (Kd.N_base ho9) hb)
    replace HO121 := am (Kd.N_elder' (nB HO121) (Kd.N_base ho9) hb)
    have HO118 := am (Kd.N_lower ho9 (below_size (kL HB)))
    replace BK115 := am (bB (kB BK115) hb)
    replace HB := am (below_step (kL HB) hb)
    clear hb ho9
    refine hK.out _ _ ⟨(blk_cell BK115.out 0).trans rfl, (blk_cell BK115.out 1).trans rfl, (blk_cell BK115.out 2).trans rfl, (blk_cell BK115.out 3).trans rfl, (blk_cell BK115.out 4).trans rfl⟩ (fun hHeld => ?_)
    clear hK K
    refine norm_ (a' := ?_) ?_ ?_
    rotate_left
    ·show Act.put _ (some 6) _ = _
     simp only [Act.put, zT, z0, zS, i64_w, i32_w]
     rfl
    exact norm_ (by simp only [putAll, Act.put, zT, z0, zS]) (hCont (v117, v120) _ ⟨hHeld, (Kd.V_mono (vB HO0_4) (fun _ hk => ⟨hk.1.1.1, ⟨hk.2, ⟨hk.1.2, hk.1.1.2⟩⟩⟩)), (Kd.V_mono (vB HO1) (fun _ hk => ⟨hk.1.1.1, ⟨hk.2, ⟨hk.1.2, hk.1.1.2⟩⟩⟩)), (nB HO118), (Kd.N_mono (nB HO121) (fun _ hk => ⟨hk.1.1, ⟨hk.2, hk.1.2⟩⟩)), (kB BK115), (kL HB)⟩)
  rintro ⟨v117, v120⟩ w10 ⟨hS_, h0_, h1_, h2_, h3_, h4_, h5_⟩
  have n0_ : Aside0 (Kd.V Kd.string 9 w10 w.heap.size (fun k_ => ((P0_4_ k_ ∨ P1_ k_) ∨ w.heap.size ≤ k_) ∧ some k_ ≠ (v117 : Value).ownBlock ∧ some k_ ≠ (v120 : Value).ownBlock ∧ k_ ≠ gb115) (.slice A0_4 l0_4.length c0_4) l0_4) := ⟨h0_⟩
  have n1_ : Aside0 (Kd.V (Kd.slice 25 k25) 22 w10 w.heap.size (fun k_ => ((P0_4_ k_ ∨ P1_ k_) ∨ w.heap.size ≤ k_) ∧ some k_ ≠ (v117 : Value).ownBlock ∧ some k_ ≠ (v120 : Value).ownBlock ∧ k_ ≠ gb115) (.slice A1 l1.length c1) l1) := ⟨h1_⟩
  have n2_ : Aside0 (Kd.N k25 25 w10 w.heap.size (fun k_ => ((P0_4_ k_ ∨ P1_ k_) ∨ w.heap.size ≤ k_) ∧ some k_ ≠ (v120 : Value).ownBlock ∧ k_ ≠ gb115) v117 y116) := ⟨h2_⟩
  have n3_ : Aside0 (Kd.N k25 25 w10 w.heap.size (fun k_ => ((P0_4_ k_ ∨ P1_ k_) ∨ w.heap.size ≤ k_) ∧ some k_ ≠ (v117 : Value).ownBlock ∧ k_ ≠ gb115) v120 t119) := ⟨h3_⟩
  have n4_ : Aside0 (w10.heap[gb115]? = some (.cells #[.int .i64 a0_0, .string a0_1, .string a0_2, .string a0_3, .slice A0_4 l0_4.length c0_4] 25 (0, 0))) := ⟨h4_⟩
  have n5_ : Aside0 (Below w.heap.size w w10) := ⟨h5_⟩
  clear HO0_4
  clear HO1
  clear BK115
  clear HB
  clear h0_ h1_ h2_ h3_ h4_ h5_
  have HO0_4 := n0_
  have HO1 := n1_
  have HO118 := n2_
  have HO121 := n3_
  have BK115 := n4_
  have HB := n5_
  clear n0_ n1_ n2_ n3_ n4_ n5_
  have hHeld : w10.cell? ⟨gb115, 0, none⟩ = some (.int .i64 a0_0) ∧ w10.cell? ⟨gb115, 1, none⟩ = some (.string a0_1) ∧ w10.cell? ⟨gb115, 2, none⟩ = some (.string a0_2) ∧ w10.cell? ⟨gb115, 3, none⟩ = some (.string a0_3) ∧ w10.cell? ⟨gb115, 4, none⟩ = some (.slice A0_4 l0_4.length c0_4) := hS_
  obtain ⟨Ao12, co12, eo12⟩ := Kd.N_slice HO121.out
  (first | subst eo12 | (injection eo12 with f1_ f2_ f3_; have f4_ := f1_.symm; have f5_ := f3_.symm; clear f1_ f2_ f3_; subst f4_; subst f5_))
  refine norm_ (a' := ?_) ?_ ?_
  rotate_left
  ·simp only [putAll, Act.put, zT, z0, zS]
   rfl
  refine one_ (i := 4) (N := some 9) #[true, true, true, true, true, false] rfl rfl (by kernel_rfl) (by decide) (fun K hK => ?_)
  refine Kd.N_append_rows_step k25 (w0 := w) w.heap.size (by rfl) (.tmp 6) (.tmp 8) 22 25 (.agg #[(.int .i64 0), (.string ⟨#[]⟩), (.string ⟨#[]⟩), (.string ⟨#[]⟩), (.slice none 0 0)]) 80 rfl Try.underlying22 info25 rfl (by decide) (by omega) v117 y116 t119 _ _ _ (fun k_ => ((P0_4_ k_ ∨ P1_ k_) ∨ w.heap.size ≤ k_) ∧ k_ ≠ gb115) (fun k_ => ((fun k_ => ((P0_4_ k_ ∨ P1_ k_) ∨ w.heap.size ≤ k_) ∧ k_ ≠ gb115)) k_ ∧ some k_ ≠ (v117 : Value).ownBlock) rfl rfl ?aO ?aR (fun _ hk => hk) ?aF ?aB ?aS ?aL ?_
  (case aR => exact (by skip; exact Kd.N_F (Kd.N_mono (ok' := (fun k_ => ((fun k_ => ((P0_4_ k_ ∨ P1_ k_) ∨ w.heap.size ≤ k_) ∧ k_ ≠ gb115)) k_ ∧ some k_ ≠ (v117 : Value).ownBlock)) (HO121.out) (fun k_ hk => ⟨⟨hk.1, hk.2.2⟩, hk.2.1⟩))))
  (case aB => exact (kL HB))
  (case aF => exact (fun k_ hk => ⟨(.inr (Nat.le_trans (below_size (kL HB)) hk)), Kd.freshB (g := gb115) (o := .cells #[.int .i64 a0_0, .string a0_1, .string a0_2, .string a0_3, .slice A0_4 l0_4.length c0_4] 25 (0, 0)) (kB BK115) k_ hk⟩))
  (case aO => exact (Kd.N_mono (nB HO118) (fun _ hk => ⟨hk.1, hk.2.2⟩)))
  (case aS => exact (below_size (kL HB)))
  (case aL => have := LMc4.out; omega)
  intro v123 w11 ho hb hg hat
  rw [← Ny122.out] at ho
  have n0_ := am (Kd.V_afterv (ok := (fun k_ => ((P0_4_ k_ ∨ P1_ k_) ∨ w.heap.size ≤ k_) ∧ some k_ ≠ (.slice Ao12 t119.length co12 : Value).ownBlock ∧ k_ ≠ gb115)) (Kd.V_mono (vB HO0_4) (fun _ hk => ⟨⟨hk.1, ⟨hk.2.2.1, hk.2.2.2⟩⟩, hk.2.1⟩)) hg hat)
  have n1_ := am (Kd.V_afterv (ok := (fun k_ => ((P0_4_ k_ ∨ P1_ k_) ∨ w.heap.size ≤ k_) ∧ some k_ ≠ (.slice Ao12 t119.length co12 : Value).ownBlock ∧ k_ ≠ gb115)) (Kd.V_mono (vB HO1) (fun _ hk => ⟨⟨hk.1, ⟨hk.2.2.1, hk.2.2.2⟩⟩, hk.2.1⟩)) hg hat)
  have n2_ := am (blk_grown (g := gb115) (o := .cells #[.int .i64 a0_0, .string a0_1, .string a0_2, .string a0_3, .slice A0_4 l0_4.length c0_4] 25 (0, 0)) (kB BK115) hg (Kd.N_away HO118.out (fun _ hk => hk.2.2)))
  have n3_ := am (Kd.N_afterv (ok := (fun k_ => ((P0_4_ k_ ∨ P1_ k_) ∨ w.heap.size ≤ k_) ∧ k_ ≠ gb115)) (Kd.N_mono (nB HO121) (fun _ hk => ⟨⟨hk.1, hk.2.2⟩, hk.2.1⟩)) hg hat)
  have n4_ := am hb
  have n5_ := am (ho)
  clear HO0_4
  clear HO1
  clear BK115
  clear HO121
  clear HB
  clear HO118
  have HO0_4 := n0_
  have HO1 := n1_
  have BK115 := n2_
  have HO121 := n3_
  have HB := n4_
  have HO124 := n5_
  clear n0_ n1_ n2_ n3_ n4_ n5_
  clear ho hb hg hat
  refine hK.out _ _ ⟨(blk_cell BK115.out 0).trans rfl, (blk_cell BK115.out 1).trans rfl, (blk_cell BK115.out 2).trans rfl, (blk_cell BK115.out 3).trans rfl, (blk_cell BK115.out 4).trans rfl⟩ (fun hHeld => ?_)
  clear hK K
  refine norm_ (a' := ?_) ?_ ?_
  rotate_left
  ·show Act.put _ (some 9) _ = _
   simp only [Act.put, zT, z0, zS, i64_w, i32_w]
   rfl
  refine pure_ (i := 5) (N := some 4) (v := ?_) (a' := ?_) #[true, true, true, true, true, true] rfl rfl (by kernel_rfl) (fun _ _ _ h => h) (Or.inl ⟨by rfl, ?_⟩) ?_ ?_
  rotate_left
  ·intro w'
   go_simp
   with_reducible rfl
  rotate_left
  ·simp only [Act.put, zT, z0, zS, i64_w, i32_w]
   rfl
  refine done_ (by kernel_rfl) ?_
  try go_wp2
  go_ret
  exact ⟨_, yE, Kd.N_mono (nB HO124) (fun _ hk => hk.1), (kL HB)⟩
 ·rw [if_neg c4] at H
  exact absurd H (by simp)
def parse_parser_is.f (s0_0 : List (S71)) (s0_1 : Int) (s0_2 : Int) (s0_3 : Bool) (a1 : Int) (a2 : ByteArray) : Option (Bool × Int × Int × Bool) := (parse_parser_look.f s0_0 s0_1 s0_2 s0_3 a1).bind fun bt125 => (if bt125.1 = 6 then (some ((bt125.2.1.toList == a2.toList), bt125.2.2.2.1, bt125.2.2.2.2.1, bt125.2.2.2.2.2)) else (some (false, bt125.2.2.2.1, bt125.2.2.2.2.1, bt125.2.2.2.2.2)))
set_option maxHeartbeats 8000000 in
set_option maxRecDepth 100000 in
theorem parse_parser_is.calls (g : Nat) (s0_0 : List (S71)) (s0_1 : Int) (s0_2 : Int) (s0_3 : Bool) (a1 : Int) (a2 : ByteArray) (r1 : Bool) (r2 : Int) (r3 : Int) (r4 : Bool) (w0 w : World) (hI : IsS83 w0 w g s0_0 s0_1 s0_2 s0_3) (hB : Below w0.heap.size w0 w) (h : parse_parser_is.f s0_0 s0_1 s0_2 s0_3 a1 a2 = some (r1, r2, r3, r4)) :
  Calls Try.prog 92 #[.pointer (some ⟨g, 0, none⟩), .int .i64 a1, .string a2] w fun e w' => e = .returned (.bool r1) ∧ IsS83 w0 w' g s0_0 r2 r3 r4 ∧ Below w0.heap.size w0 w' ∧ KeepBut w w' g none := by
 have hu71 := Try.underlying71
 have HI0 := am hI
 have HK := am (KeepBut.refl w g none)
 have HL := am hB.size
 clear hI
 have HW0 := am hB.size
 have HB := am hB
 clear hB
 unfold parse_parser_is.f at h
 have H := h
 clear h
 obtain ⟨⟨t125, t126, t127, t128, t129, t130⟩, A4, H⟩ := bO H
 try dsimp only at H
 by_cases c5 : t125 = 6
 ·rw [if_pos c5] at H
  have c5b0 := eT c5
  have c5b1 := nF c5
  clear c5
  simp only [Option.some.injEq, Prod.mk.injEq] at H
  obtain ⟨rfl, rfl, rfl, rfl⟩ := H
  go_enter Try.func92, Try.ntmps92
  go_wp2_with (first | ((with_reducible refine gC 67 rfl ?_); refine gL (some 10) Try.func67 #[.pointer (some ⟨g, 0, none⟩), .int .i64 a1] ?_; (with_reducible refine (parse_parser_look.calls _ _ _ _ _ _ _ _ _ _ _ _ w0 _ ?side1 ?side2 A4.out).mono ?_); (case side1 => exact yI); (case side2 => exact (kLI HB)); rintro e w6 ⟨rfl, hi, hb, hk⟩; refine ⟨_, rfl, ?_⟩; replace HK := am (KeepBut.trans (kK HK) hk (.inl rfl)); replace HB := am hb; replace HI0 := am hi; (try clear hi hb hk)) | ((with_reducible refine gD 7 rfl ?_); refine bx 7 #[.int .i64 0, .string (⟨#[]⟩ : ByteArray), .int .i64 0] 71 ?_; intro gb131 hg w7 hbox hb; replace HB := am (below_step (kLI HB) hb); have BK131 := am hbox; have GW131 := am ((by rw [hg]; exact (keep_size (w := w) (g := g) (row := none) (kK HK)) : w.heap.size ≤ gb131)); have GE131 := am ((Nat.le_trans HW0.out (by rw [hg]; exact (keep_size (w := w) (g := g) (row := none) (kK HK)) : w.heap.size ≤ gb131) : w0.heap.size ≤ gb131)); replace HK := am (KeepBut.trans (kK HK) (KeepBut.of_below hb g none) (.inl rfl)); have NB0_131 := am ((by rw [hg]; exact Nat.ne_of_lt (IsS83.lt (show IsS83 w0 _ g s0_0 t128 t129 t130 from yI)) : g ≠ gb131)); have NB131_0 := am ((by rw [hg]; exact Nat.ne_of_gt (IsS83.lt (show IsS83 w0 _ g s0_0 t128 t129 t130 from yI)) : gb131 ≠ g)); replace HI0 := am (IsS83.below yI hb); clear hb hbox hg; have hnb8 := NB131_0.out; have hnc8 := NB0_131.out; obtain ⟨hcz9_0, hcz9_1, hcz9_2, hfz9_0, hfz9_1, hfz9_2⟩ := bk3 BK131.out))
  go_ret
  exact ⟨yE, yI, (kLI HB), (kK HK)⟩
 ·rw [if_neg c5] at H
  have c5b0 := eF c5
  have c5b1 := nT c5
  simp only [Option.some.injEq, Prod.mk.injEq] at H
  obtain ⟨rfl, rfl, rfl, rfl⟩ := H
  go_enter Try.func92, Try.ntmps92
  go_wp2_with (first | ((with_reducible refine gC 67 rfl ?_); refine gL (some 10) Try.func67 #[.pointer (some ⟨g, 0, none⟩), .int .i64 a1] ?_; (with_reducible refine (parse_parser_look.calls _ _ _ _ _ _ _ _ _ _ _ _ w0 _ ?side1 ?side2 A4.out).mono ?_); (case side1 => exact yI); (case side2 => exact (kLI HB)); rintro e w10 ⟨rfl, hi, hb, hk⟩; refine ⟨_, rfl, ?_⟩; replace HK := am (KeepBut.trans (kK HK) hk (.inl rfl)); replace HB := am hb; replace HI0 := am hi; (try clear hi hb hk)) | ((with_reducible refine gD 7 rfl ?_); refine bx 7 #[.int .i64 0, .string (⟨#[]⟩ : ByteArray), .int .i64 0] 71 ?_; intro gb131 hg w11 hbox hb; replace HB := am (below_step (kLI HB) hb); have BK131 := am hbox; have GW131 := am ((by rw [hg]; exact (keep_size (w := w) (g := g) (row := none) (kK HK)) : w.heap.size ≤ gb131)); have GE131 := am ((Nat.le_trans HW0.out (by rw [hg]; exact (keep_size (w := w) (g := g) (row := none) (kK HK)) : w.heap.size ≤ gb131) : w0.heap.size ≤ gb131)); replace HK := am (KeepBut.trans (kK HK) (KeepBut.of_below hb g none) (.inl rfl)); have NB0_131 := am ((by rw [hg]; exact Nat.ne_of_lt (IsS83.lt (show IsS83 w0 _ g s0_0 t128 t129 t130 from yI)) : g ≠ gb131)); have NB131_0 := am ((by rw [hg]; exact Nat.ne_of_gt (IsS83.lt (show IsS83 w0 _ g s0_0 t128 t129 t130 from yI)) : gb131 ≠ g)); replace HI0 := am (IsS83.below yI hb); clear hb hbox hg; have hnb12 := NB131_0.out; have hnc12 := NB0_131.out; obtain ⟨hcz13_0, hcz13_1, hcz13_2, hfz13_0, hfz13_1, hfz13_2⟩ := bk3 BK131.out))
  go_ret
  exact ⟨yE, yI, (kLI HB), (kK HK)⟩
def parse_parser_verbs.f (s0_0 : List (S71)) (s0_1 : Int) (s0_2 : Int) (s0_3 : Bool) : Option (Bool × Int × Int × Bool) := (parse_parser_look.f s0_0 s0_1 s0_2 s0_3 0).bind fun bt132 => (if bt132.1 = 4 then (some (true, bt132.2.2.2.1, bt132.2.2.2.2.1, bt132.2.2.2.2.2)) else (if bt132.1 = 3 then (some (true, bt132.2.2.2.1, bt132.2.2.2.2.1, bt132.2.2.2.2.2)) else ((parse_parser_is.f s0_0 bt132.2.2.2.1 bt132.2.2.2.2.1 bt132.2.2.2.2.2 0 (⟨#[123]⟩ : ByteArray)).bind fun bt139 => (some (bt139.1, bt139.2.1, bt139.2.2.1, bt139.2.2.2)))))
set_option maxHeartbeats 8000000 in
set_option maxRecDepth 100000 in
theorem parse_parser_verbs.calls (g : Nat) (s0_0 : List (S71)) (s0_1 : Int) (s0_2 : Int) (s0_3 : Bool) (r1 : Bool) (r2 : Int) (r3 : Int) (r4 : Bool) (w0 w : World) (hI : IsS83 w0 w g s0_0 s0_1 s0_2 s0_3) (hB : Below w0.heap.size w0 w) (h : parse_parser_verbs.f s0_0 s0_1 s0_2 s0_3 = some (r1, r2, r3, r4)) :
  Calls Try.prog 110 #[.pointer (some ⟨g, 0, none⟩)] w fun e w' => e = .returned (.bool r1) ∧ IsS83 w0 w' g s0_0 r2 r3 r4 ∧ Below w0.heap.size w0 w' ∧ KeepBut w w' g none := by
 have hu71 := Try.underlying71
 have HI0 := am hI
 have HK := am (KeepBut.refl w g none)
 have HL := am hB.size
 clear hI
 have HW0 := am hB.size
 have HB := am hB
 clear hB
 unfold parse_parser_verbs.f at h
 have H := h
 clear h
 obtain ⟨⟨t132, t133, t134, t135, t136, t137⟩, A2, H⟩ := bO H
 try dsimp only at H
 by_cases c3 : t132 = 4
 ·rw [if_pos c3] at H
  have c3b0 := eT c3
  have c3b1 := nF c3
  clear c3
  simp only [Option.some.injEq, Prod.mk.injEq] at H
  obtain ⟨rfl, rfl, rfl, rfl⟩ := H
  go_enter Try.func110, Try.ntmps110
  go_wp2_with (first | ((with_reducible refine gC 67 rfl ?_); refine gL (some 5) Try.func67 #[.pointer (some ⟨g, 0, none⟩), .int .i64 0] ?_; (with_reducible refine (parse_parser_look.calls _ _ _ _ _ _ _ _ _ _ _ _ w0 _ ?side1 ?side2 A2.out).mono ?_); (case side1 => exact yI); (case side2 => exact (kLI HB)); rintro e w4 ⟨rfl, hi, hb, hk⟩; refine ⟨_, rfl, ?_⟩; replace HK := am (KeepBut.trans (kK HK) hk (.inl rfl)); replace HB := am hb; replace HI0 := am hi; (try clear hi hb hk)) | ((with_reducible refine gD 3 rfl ?_); refine bx 3 #[.int .i64 0, .string (⟨#[]⟩ : ByteArray), .int .i64 0] 71 ?_; intro gb138 hg w5 hbox hb; replace HB := am (below_step (kLI HB) hb); have BK138 := am hbox; have GW138 := am ((by rw [hg]; exact (keep_size (w := w) (g := g) (row := none) (kK HK)) : w.heap.size ≤ gb138)); have GE138 := am ((Nat.le_trans HW0.out (by rw [hg]; exact (keep_size (w := w) (g := g) (row := none) (kK HK)) : w.heap.size ≤ gb138) : w0.heap.size ≤ gb138)); replace HK := am (KeepBut.trans (kK HK) (KeepBut.of_below hb g none) (.inl rfl)); have NB0_138 := am ((by rw [hg]; exact Nat.ne_of_lt (IsS83.lt (show IsS83 w0 _ g s0_0 t135 t136 t137 from yI)) : g ≠ gb138)); have NB138_0 := am ((by rw [hg]; exact Nat.ne_of_gt (IsS83.lt (show IsS83 w0 _ g s0_0 t135 t136 t137 from yI)) : gb138 ≠ g)); replace HI0 := am (IsS83.below yI hb); clear hb hbox hg; have hnb6 := NB138_0.out; have hnc6 := NB0_138.out; obtain ⟨hcz7_0, hcz7_1, hcz7_2, hfz7_0, hfz7_1, hfz7_2⟩ := bk3 BK138.out))
  go_ret
  exact ⟨yE, yI, (kLI HB), (kK HK)⟩
 ·rw [if_neg c3] at H
  have c3b0 := eF c3
  have c3b1 := nT c3
  by_cases c8 : t132 = 3
  ·rw [if_pos c8] at H
   have c8b0 := eT c8
   have c8b1 := nF c8
   clear c8
   simp only [Option.some.injEq, Prod.mk.injEq] at H
   obtain ⟨rfl, rfl, rfl, rfl⟩ := H
   go_enter Try.func110, Try.ntmps110
   go_wp2_with (first | ((with_reducible refine gC 67 rfl ?_); refine gL (some 5) Try.func67 #[.pointer (some ⟨g, 0, none⟩), .int .i64 0] ?_; (with_reducible refine (parse_parser_look.calls _ _ _ _ _ _ _ _ _ _ _ _ w0 _ ?side1 ?side2 A2.out).mono ?_); (case side1 => exact yI); (case side2 => exact (kLI HB)); rintro e w9 ⟨rfl, hi, hb, hk⟩; refine ⟨_, rfl, ?_⟩; replace HK := am (KeepBut.trans (kK HK) hk (.inl rfl)); replace HB := am hb; replace HI0 := am hi; (try clear hi hb hk)) | ((with_reducible refine gD 3 rfl ?_); refine bx 3 #[.int .i64 0, .string (⟨#[]⟩ : ByteArray), .int .i64 0] 71 ?_; intro gb138 hg w10 hbox hb; replace HB := am (below_step (kLI HB) hb); have BK138 := am hbox; have GW138 := am ((by rw [hg]; exact (keep_size (w := w) (g := g) (row := none) (kK HK)) : w.heap.size ≤ gb138)); have GE138 := am ((Nat.le_trans HW0.out (by rw [hg]; exact (keep_size (w := w) (g := g) (row := none) (kK HK)) : w.heap.size ≤ gb138) : w0.heap.size ≤ gb138)); replace HK := am (KeepBut.trans (kK HK) (KeepBut.of_below hb g none) (.inl rfl)); have NB0_138 := am ((by rw [hg]; exact Nat.ne_of_lt (IsS83.lt (show IsS83 w0 _ g s0_0 t135 t136 t137 from yI)) : g ≠ gb138)); have NB138_0 := am ((by rw [hg]; exact Nat.ne_of_gt (IsS83.lt (show IsS83 w0 _ g s0_0 t135 t136 t137 from yI)) : gb138 ≠ g)); replace HI0 := am (IsS83.below yI hb); clear hb hbox hg; have hnb11 := NB138_0.out; have hnc11 := NB0_138.out; obtain ⟨hcz12_0, hcz12_1, hcz12_2, hfz12_0, hfz12_1, hfz12_2⟩ := bk3 BK138.out))
   go_ret
   exact ⟨yE, yI, (kLI HB), (kK HK)⟩
  ·rw [if_neg c8] at H
   have c8b0 := eF c8
   have c8b1 := nT c8
   obtain ⟨⟨t139, t140, t141, t142⟩, A13, H⟩ := bO H
   try dsimp only at H
   simp only [Option.some.injEq, Prod.mk.injEq] at H
   obtain ⟨rfl, rfl, rfl, rfl⟩ := H
   go_enter Try.func110, Try.ntmps110
   go_wp2_with (first | ((with_reducible refine gC 67 rfl ?_); refine gL (some 5) Try.func67 #[.pointer (some ⟨g, 0, none⟩), .int .i64 0] ?_; (with_reducible refine (parse_parser_look.calls _ _ _ _ _ _ _ _ _ _ _ _ w0 _ ?side1 ?side2 A2.out).mono ?_); (case side1 => exact yI); (case side2 => exact (kLI HB)); rintro e w14 ⟨rfl, hi, hb, hk⟩; refine ⟨_, rfl, ?_⟩; replace HK := am (KeepBut.trans (kK HK) hk (.inl rfl)); replace HB := am hb; replace HI0 := am hi; (try clear hi hb hk)) | ((with_reducible refine gD 3 rfl ?_); refine bx 3 #[.int .i64 0, .string (⟨#[]⟩ : ByteArray), .int .i64 0] 71 ?_; intro gb138 hg w15 hbox hb; replace HB := am (below_step (kLI HB) hb); have BK138 := am hbox; have GW138 := am ((by rw [hg]; exact (keep_size (w := w) (g := g) (row := none) (kK HK)) : w.heap.size ≤ gb138)); have GE138 := am ((Nat.le_trans HW0.out (by rw [hg]; exact (keep_size (w := w) (g := g) (row := none) (kK HK)) : w.heap.size ≤ gb138) : w0.heap.size ≤ gb138)); replace HK := am (KeepBut.trans (kK HK) (KeepBut.of_below hb g none) (.inl rfl)); have NB0_138 := am ((by rw [hg]; exact Nat.ne_of_lt (IsS83.lt (show IsS83 w0 _ g s0_0 t135 t136 t137 from yI)) : g ≠ gb138)); have NB138_0 := am ((by rw [hg]; exact Nat.ne_of_gt (IsS83.lt (show IsS83 w0 _ g s0_0 t135 t136 t137 from yI)) : gb138 ≠ g)); replace HI0 := am (IsS83.below yI hb); clear hb hbox hg; have hnb16 := NB138_0.out; have hnc16 := NB0_138.out; obtain ⟨hcz17_0, hcz17_1, hcz17_2, hfz17_0, hfz17_1, hfz17_2⟩ := bk3 BK138.out) | (go_at_call 92; (with_reducible refine (parse_parser_is.calls _ _ _ _ _ _ _ _ _ _ _ w0 _ ?side1 ?side2 A13.out).mono ?_); (case side1 => exact yI); (case side2 => exact (kLI HB)); rintro e w18 ⟨rfl, hi, hb, hk⟩; replace BK138 := am (KeepBut.blk hk (g' := gb138) (o := .cells #[.int .i64 t132, .string t133, .int .i64 t134] 71 (0, 0)) (kM BK138) NB138_0.out (by simp)); replace HK := am (KeepBut.trans (kK HK) hk (.inl rfl)); replace HB := am hb; replace HI0 := am hi; (try clear hi hb hk)))
   go_ret
   exact ⟨yE, yI, (kLI HB), (kK HK)⟩
end Go.Proofs.Ytdelccahgchadaa.P
end
