/- What the law PrintBlanks rests on, part 3. -/
import Derived.Test.YtdelccahgchadaaKPrintBlanks1
import Derived.Shelf.Strings.Builder1
import Derived.Shelf.Strings.Builder2
import Derived.Shelf.Strings.OnBuilder
import Derived.Shelf.Small.Strs
import Derived.Shelf.Strings.Search1
import Derived.Shelf.Strings.Search2
import Derived.Shelf.Strings.Search3
import Derived.Shelf.LaysM
import Derived.Shelf.Strings.Shaped
import Derived.Shelf.GgClosure.StringsIndexFunc
import Derived.Ground.GgwProg
import Derived.Shelf.GgClosure.StringsIndexFuncTop
import Derived.Shelf.GgClosure.StringsRunes
import Derived.Shelf.Strings.Prefix
import Derived.Shelf.Strings.FuncGrows
import Derived.Shelf.Abstract
import Derived.WalkSpells
import Derived.WalkLawsBesides
import Derived.Laws.RangeAny
import Derived.Lib.IndexAny
import Derived.StillTailTactics
import Derived.BigRegion
import Derived.Deep.RegionWith
set_option linter.unusedVariables false
set_option linter.unusedSimpArgs false
section
namespace Go.Proofs
open Go.Shelf
def Try.lays169_ren : Go.Shelf.Ren := ⟨fun | 169 => 118 | n => n, fun | 70 => 116 | 9 => 9 | 0 => 0 | 72 => 119 | 37 => 117 | 127 => 126 | 3 => 3 | 5 => 5 | n => n, fun | n => n⟩
theorem Try.lays169 : Go.Proofs.Lays.n169 Try.prog Try.lays169_ren := {
  mixed := by kernel_rfl
  f169 := Try.func118.trans (congrArg some (by kernel_rfl))
  t0 := Try.underlying0
  a0 := Try.isAgg0
  z0 := Try.sizeOf0
  v0 := Try.zeroValue0
  t3 := Try.underlying3
  a3 := Try.isAgg3
  z3 := Try.sizeOf3
  v3 := Try.zeroValue3
  t9 := Try.underlying9
  a9 := Try.isAgg9
  z9 := Try.sizeOf9
  v9 := Try.zeroValue9
  t37 := Try.underlying117
  a37 := Try.isAgg117
  z37 := Try.sizeOf117
  v37 := Try.zeroValue117
  t70 := Try.underlying116
  a70 := Try.isAgg116
  z70 := Try.sizeOf116
  v70 := Try.zeroValue116
  t72 := Try.underlying119
  a72 := Try.isAgg119
  z72 := Try.sizeOf119
  v72 := Try.zeroValue119
  t127 := Try.underlying126
  a127 := Try.isAgg126
  z127 := Try.sizeOf126
  v127 := Try.zeroValue126 }
theorem Try.Builder_Extra_169 : Builder.Extra Try.prog Try.lays169_ren := {
  sizeBuilder := by kernel_rfl
  liesBuilder := by kernel_rfl
  t5 := Try.underlying5
  a5 := Try.isAgg5
  z5 := Try.sizeOf5
  v5 := Try.zeroValue5
  infoByte := by kernel_rfl
  cellsByte := by kernel_rfl
  sizeByte := by kernel_rfl
  neB5 := by decide }
open Go.RowKit in
theorem Try.Builder_String (B b : Nat) (l : List UInt8) (w : World) (h : Lib.IsBuilder 119 5 B b (Lib.byteCells l) w) (h0 : l ≠ []) :
    Calls Try.prog 118 #[.pointer (some ⟨b, 0, none⟩)] w fun e w' => e = .returned (.string ⟨l.toArray⟩) ∧ Below B w w' := Any.Builder_String Try.lays169 Try.Builder_Extra_169 B b l w h h0
open Go.RowKit in
theorem Try.Builder_String_empty (B b : Nat) (w : World) (h : Lib.IsBuilder 119 5 B b [] w) (hBw : B ≤ w.heap.size) :
    Calls Try.prog 118 #[.pointer (some ⟨b, 0, none⟩)] w fun e w' => e = .returned (.string ⟨#[]⟩) ∧ Below B w w' := Any.Builder_String_empty Try.lays169 Try.Builder_Extra_169 B b w h hBw
open Go.RowKit in
theorem Try.Builder_String_any (B b : Nat) (l : List UInt8) (w : World) (h : Lib.IsBuilder 119 5 B b (Lib.byteCells l) w) (hBw : B ≤ w.heap.size) :
    Calls Try.prog 118 #[.pointer (some ⟨b, 0, none⟩)] w fun e w' => e = .returned (.string ⟨l.toArray⟩) ∧ Below B w w' := Any.Builder_String_any Try.lays169 Try.Builder_Extra_169 B b l w h hBw
def Try.lays241_ren : Go.Shelf.Ren := ⟨fun | 241 => 126 | 277 => 132 | n => n, fun | 70 => 116 | 3 => 3 | 0 => 0 | 72 => 119 | 37 => 117 | 5 => 5 | n => n, fun | n => n⟩
theorem Try.lays241 : Go.Proofs.Lays.n241 Try.prog Try.lays241_ren := {
  mixed := by kernel_rfl
  f241 := Try.func126.trans (congrArg some (by kernel_rfl))
  f277 := Try.func132.trans (congrArg some (by kernel_rfl))
  t0 := Try.underlying0
  a0 := Try.isAgg0
  z0 := Try.sizeOf0
  v0 := Try.zeroValue0
  t3 := Try.underlying3
  a3 := Try.isAgg3
  z3 := Try.sizeOf3
  v3 := Try.zeroValue3
  t37 := Try.underlying117
  a37 := Try.isAgg117
  z37 := Try.sizeOf117
  v37 := Try.zeroValue117
  t70 := Try.underlying116
  a70 := Try.isAgg116
  z70 := Try.sizeOf116
  v70 := Try.zeroValue116
  t72 := Try.underlying119
  a72 := Try.isAgg119
  z72 := Try.sizeOf119
  v72 := Try.zeroValue119 }
theorem Try.Builder_Extra_241 : Builder.Extra Try.prog Try.lays241_ren := {
  sizeBuilder := by kernel_rfl
  liesBuilder := by kernel_rfl
  t5 := Try.underlying5
  a5 := Try.isAgg5
  z5 := Try.sizeOf5
  v5 := Try.zeroValue5
  infoByte := by kernel_rfl
  cellsByte := by kernel_rfl
  sizeByte := by kernel_rfl
  neB5 := by decide }
open Go.RowKit in
theorem Try.Builder_grow_fresh (B b n : Nat) (w : World) (hB : B ≤ b) (hbk : w.heap[b]? = some (.cells #[.pointer (some ⟨b, 0, none⟩), .slice none 0 0] 119 (0, 0))) (hBw : B ≤ w.heap.size) (hn : n ≤ 281474976710656) :
    Calls Try.prog 126 #[.pointer (some ⟨b, 0, none⟩), .int .i64 n] w fun e w' => e = .returned (.tuple #[]) ∧ (Lib.BuilderAt 119 5 B b (.pointer (some ⟨b, 0, none⟩)) [] w' ∧ Below B w w') := Any.Builder_grow_fresh Try.lays241 Try.Builder_Extra_241 B b n w hB hbk hBw hn
def Try.lays165_ren : Go.Shelf.Ren := ⟨fun | 165 => 116 | 240 => 125 | 241 => 126 | 276 => 131 | 277 => 132 | n => n, fun | 70 => 116 | 3 => 3 | 0 => 0 | 4 => 4 | 9 => 9 | 20 => 20 | 72 => 119 | 37 => 117 | 164 => 129 | 5 => 5 | n => n, fun | n => n⟩
theorem Try.lays165 : Go.Proofs.Lays.n165 Try.prog Try.lays165_ren := {
  mixed := by kernel_rfl
  f165 := Try.func116.trans (congrArg some (by kernel_rfl))
  f240 := Try.func125.trans (congrArg some (by kernel_rfl))
  f241 := Try.func126.trans (congrArg some (by kernel_rfl))
  f276 := Try.func131.trans (congrArg some (by kernel_rfl))
  f277 := Try.func132.trans (congrArg some (by kernel_rfl))
  t0 := Try.underlying0
  a0 := Try.isAgg0
  z0 := Try.sizeOf0
  v0 := Try.zeroValue0
  t3 := Try.underlying3
  a3 := Try.isAgg3
  z3 := Try.sizeOf3
  v3 := Try.zeroValue3
  t4 := Try.underlying4
  a4 := Try.isAgg4
  z4 := Try.sizeOf4
  v4 := Try.zeroValue4
  t9 := Try.underlying9
  a9 := Try.isAgg9
  z9 := Try.sizeOf9
  v9 := Try.zeroValue9
  t20 := Try.underlying20
  a20 := Try.isAgg20
  z20 := Try.sizeOf20
  v20 := Try.zeroValue20
  t37 := Try.underlying117
  a37 := Try.isAgg117
  z37 := Try.sizeOf117
  v37 := Try.zeroValue117
  t70 := Try.underlying116
  a70 := Try.isAgg116
  z70 := Try.sizeOf116
  v70 := Try.zeroValue116
  t72 := Try.underlying119
  a72 := Try.isAgg119
  z72 := Try.sizeOf119
  v72 := Try.zeroValue119
  t164 := Try.underlying129
  a164 := Try.isAgg129
  z164 := Try.sizeOf129
  v164 := Try.zeroValue129 }
theorem Try.Builder_Extra_165 : Builder.Extra Try.prog Try.lays165_ren := {
  sizeBuilder := by kernel_rfl
  liesBuilder := by kernel_rfl
  t5 := Try.underlying5
  a5 := Try.isAgg5
  z5 := Try.sizeOf5
  v5 := Try.zeroValue5
  infoByte := by kernel_rfl
  cellsByte := by kernel_rfl
  sizeByte := by kernel_rfl
  neB5 := by decide }
open Go.RowKit in
theorem Try.Builder_Grow_fresh (B b n : Nat) (w : World) (hB : B ≤ b) (hbk : w.heap[b]? = some (.cells #[.pointer none, .slice none 0 0] 119 (0, 0))) (hBw : B ≤ w.heap.size) (hn : n ≤ 281474976710656) :
    Calls Try.prog 116 #[.pointer (some ⟨b, 0, none⟩), .int .i64 n] w fun e w' => e = .returned (.tuple #[]) ∧ (Lib.BuilderAt 119 5 B b (.pointer (some ⟨b, 0, none⟩)) [] w' ∧ Below B w w') := Any.Builder_Grow_fresh Try.lays165 Try.Builder_Extra_165 B b n w hB hbk hBw hn
def Try.lays156_ren : Go.Shelf.Ren := ⟨fun | 156 => 103 | 165 => 116 | 166 => 117 | 169 => 118 | 240 => 125 | 241 => 126 | 276 => 131 | 277 => 132 | n => n, fun | 31 => 23 | 9 => 9 | 3 => 3 | 4 => 4 | 0 => 0 | 20 => 20 | 72 => 119 | 76 => 123 | 70 => 116 | 37 => 117 | 75 => 122 | 127 => 126 | 164 => 129 | 5 => 5 | 80 => 75 | n => n, fun | n => n⟩
theorem Try.lays156 : Go.Proofs.Lays.n156 Try.prog Try.lays156_ren := {
  mixed := by kernel_rfl
  f156 := Try.func103.trans (congrArg some (by kernel_rfl))
  f165 := Try.func116.trans (congrArg some (by kernel_rfl))
  f166 := Try.func117.trans (congrArg some (by kernel_rfl))
  f169 := Try.func118.trans (congrArg some (by kernel_rfl))
  f240 := Try.func125.trans (congrArg some (by kernel_rfl))
  f241 := Try.func126.trans (congrArg some (by kernel_rfl))
  f276 := Try.func131.trans (congrArg some (by kernel_rfl))
  f277 := Try.func132.trans (congrArg some (by kernel_rfl))
  t0 := Try.underlying0
  a0 := Try.isAgg0
  z0 := Try.sizeOf0
  v0 := Try.zeroValue0
  t3 := Try.underlying3
  a3 := Try.isAgg3
  z3 := Try.sizeOf3
  v3 := Try.zeroValue3
  t4 := Try.underlying4
  a4 := Try.isAgg4
  z4 := Try.sizeOf4
  v4 := Try.zeroValue4
  t9 := Try.underlying9
  a9 := Try.isAgg9
  z9 := Try.sizeOf9
  v9 := Try.zeroValue9
  t20 := Try.underlying20
  a20 := Try.isAgg20
  z20 := Try.sizeOf20
  v20 := Try.zeroValue20
  t31 := Try.underlying23
  a31 := Try.isAgg23
  z31 := Try.sizeOf23
  v31 := Try.zeroValue23
  t37 := Try.underlying117
  a37 := Try.isAgg117
  z37 := Try.sizeOf117
  v37 := Try.zeroValue117
  t70 := Try.underlying116
  a70 := Try.isAgg116
  z70 := Try.sizeOf116
  v70 := Try.zeroValue116
  t72 := Try.underlying119
  a72 := Try.isAgg119
  z72 := Try.sizeOf119
  v72 := Try.zeroValue119
  t75 := Try.underlying122
  a75 := Try.isAgg122
  z75 := Try.sizeOf122
  v75 := Try.zeroValue122
  t76 := Try.underlying123
  a76 := Try.isAgg123
  z76 := Try.sizeOf123
  v76 := Try.zeroValue123
  t127 := Try.underlying126
  a127 := Try.isAgg126
  z127 := Try.sizeOf126
  v127 := Try.zeroValue126
  t164 := Try.underlying129
  a164 := Try.isAgg129
  z164 := Try.sizeOf129
  v164 := Try.zeroValue129 }
theorem Try.Builder_Extra_156 : Builder.Extra Try.prog Try.lays156_ren := {
  sizeBuilder := by kernel_rfl
  liesBuilder := by kernel_rfl
  t5 := Try.underlying5
  a5 := Try.isAgg5
  z5 := Try.sizeOf5
  v5 := Try.zeroValue5
  infoByte := by kernel_rfl
  cellsByte := by kernel_rfl
  sizeByte := by kernel_rfl
  neB5 := by decide }
open Go.RowKit in
theorem Try.strings_Join_none (a : Option Addr) (c : Nat) (sep : ByteArray) (w : World) :
    Calls Try.prog 103 #[.slice a 0 c, .string sep] w fun e w' => e = .returned (.string ⟨#[]⟩) ∧ w' = w := Any.strings_Join_none Try.lays156 Try.Builder_Extra_156 a c sep w
open Go.RowKit in
theorem Try.strings_Join (bk o c : Nat) (xs : List ByteArray) (sep : ByteArray) (w : World) (hcells : ∀ (j : Nat) x, xs[j]? = some x → w.cell? ⟨bk, o + j, none⟩ = some (.string x)) (hbk : bk < w.heap.size) (hN : xs.length ≤ 140737488355328) (hcap : xs.length ≤ c) (hlen : (Lib.join (xs.map (·.data.toList)) sep.data.toList).length ≤ 140737488355328) :
    Calls Try.prog 103 #[.slice (some ⟨bk, o, none⟩) xs.length c, .string sep] w fun e w' => e = .returned (.string ⟨(Lib.join (xs.map (·.data.toList)) sep.data.toList).toArray⟩) ∧ Below w.heap.size w w' := Any.strings_Join Try.lays156 Try.Builder_Extra_156 bk o c xs sep w hcells hbk hN hcap hlen
def Try.lays137_ren : Go.Shelf.Ren := ⟨fun | 137 => 90 | 217 => 109 | 266 => 122 | n => n, fun | 9 => 9 | 5 => 5 | 3 => 3 | n => n, fun | n => n⟩
theorem Try.lays137 : Go.Proofs.Lays.n137 Try.prog Try.lays137_ren := {
  mixed := by kernel_rfl
  f137 := Try.func90.trans (congrArg some (by kernel_rfl))
  f217 := Try.func109.trans (congrArg some (by kernel_rfl))
  f266 := Try.func122.trans (congrArg some (by kernel_rfl))
  t3 := Try.underlying3
  a3 := Try.isAgg3
  z3 := Try.sizeOf3
  v3 := Try.zeroValue3
  t5 := Try.underlying5
  a5 := Try.isAgg5
  z5 := Try.sizeOf5
  v5 := Try.zeroValue5
  t9 := Try.underlying9
  a9 := Try.isAgg9
  z9 := Try.sizeOf9
  v9 := Try.zeroValue9 }
open Go.RowKit in
theorem Try.strings_IndexByte (s : ByteArray) (c : Int) (w : World) :
    Calls Try.prog 90 #[.string s, .int .u8 c] w fun e w' => e = .returned (.int .i64 (Lib.indexByte s.data.toList c.toNat.toUInt8)) ∧ w' = w := Any.strings_IndexByte Try.lays137 s c w
def Try.lays217_ren : Go.Shelf.Ren := ⟨fun | 217 => 109 | 266 => 122 | n => n, fun | 9 => 9 | 5 => 5 | 3 => 3 | n => n, fun | n => n⟩
theorem Try.lays217 : Go.Proofs.Lays.n217 Try.prog Try.lays217_ren := {
  mixed := by kernel_rfl
  f217 := Try.func109.trans (congrArg some (by kernel_rfl))
  f266 := Try.func122.trans (congrArg some (by kernel_rfl))
  t3 := Try.underlying3
  a3 := Try.isAgg3
  z3 := Try.sizeOf3
  v3 := Try.zeroValue3
  t5 := Try.underlying5
  a5 := Try.isAgg5
  z5 := Try.sizeOf5
  v5 := Try.zeroValue5
  t9 := Try.underlying9
  a9 := Try.isAgg9
  z9 := Try.sizeOf9
  v9 := Try.zeroValue9 }
open Go.RowKit Go.Lib in
theorem Try.stringslite_IndexByte (s : ByteArray) (c : Int) (w : World) :
    Calls Try.prog 109 #[.string s, .int .u8 c] w fun e w' => e = .returned (.int .i64 (Lib.indexByte s.data.toList c.toNat.toUInt8)) ∧ w' = w := Any.stringslite_IndexByte Try.lays217 s c w
def Try.lays224_ren : Go.Shelf.Ren := ⟨fun | 224 => 128 | n => n, fun | 3 => 3 | n => n, fun | n => n⟩
theorem Try.lays224 : Go.Proofs.Lays.n224 Try.prog Try.lays224_ren := {
  mixed := by kernel_rfl
  f224 := Try.func128.trans (congrArg some (by kernel_rfl))
  t3 := Try.underlying3
  a3 := Try.isAgg3
  z3 := Try.sizeOf3
  v3 := Try.zeroValue3 }
open Go.RowKit Go.Lib in
theorem Try.bytealg_Cutover (n : Int) (h0 : 0 ≤ n) (h1 : n < 4611686018427387904) (w : World) :
    Calls Try.prog 128 #[.int .i64 n] w fun e w' => e = .returned (.int .i64 ((n + 16) / 8)) ∧ w' = w := Any.bytealg_Cutover Try.lays224 n h0 h1 w
def Try.lays314_ren : Go.Shelf.Ren := ⟨fun | 314 => 133 | n => n, fun | 9 => 9 | 51 => 132 | 3 => 3 | 4 => 4 | 5 => 5 | 46 => 128 | n => n, fun | n => n⟩
theorem Try.lays314 : Go.Proofs.Lays.n314 Try.prog Try.lays314_ren := {
  mixed := by kernel_rfl
  f314 := Try.func133.trans (congrArg some (by kernel_rfl))
  t3 := Try.underlying3
  a3 := Try.isAgg3
  z3 := Try.sizeOf3
  v3 := Try.zeroValue3
  t4 := Try.underlying4
  a4 := Try.isAgg4
  z4 := Try.sizeOf4
  v4 := Try.zeroValue4
  t5 := Try.underlying5
  a5 := Try.isAgg5
  z5 := Try.sizeOf5
  v5 := Try.zeroValue5
  t9 := Try.underlying9
  a9 := Try.isAgg9
  z9 := Try.sizeOf9
  v9 := Try.zeroValue9
  t46 := Try.underlying128
  a46 := Try.isAgg128
  z46 := Try.sizeOf128
  v46 := Try.zeroValue128
  t51 := Try.underlying132
  a51 := Try.isAgg132
  z51 := Try.sizeOf132
  v51 := Try.zeroValue132 }
open Go.RowKit Go.Lib in
theorem Try.bytealg_hashStr (sep : ByteArray) (hs : sep.size < 4294967281) (w : World) :
    Calls Try.prog 133 #[.string sep] w fun e w' => e = .returned (.tuple #[.int .u32 (RK.H sep.data.toList % 4294967296), .int .u32 (16777619 ^ sep.size % 4294967296)]) ∧ w' = w := Any.bytealg_hashStr Try.lays314 sep hs w
def Try.lays267_ren : Go.Shelf.Ren := ⟨fun | 267 => 129 | 314 => 133 | n => n, fun | 9 => 9 | 3 => 3 | 146 => 133 | 51 => 132 | 4 => 4 | 5 => 5 | 46 => 128 | n => n, fun | n => n⟩
theorem Try.lays267 : Go.Proofs.Lays.n267 Try.prog Try.lays267_ren := {
  mixed := by kernel_rfl
  f267 := Try.func129.trans (congrArg some (by kernel_rfl))
  f314 := Try.func133.trans (congrArg some (by kernel_rfl))
  t3 := Try.underlying3
  a3 := Try.isAgg3
  z3 := Try.sizeOf3
  v3 := Try.zeroValue3
  t4 := Try.underlying4
  a4 := Try.isAgg4
  z4 := Try.sizeOf4
  v4 := Try.zeroValue4
  t5 := Try.underlying5
  a5 := Try.isAgg5
  z5 := Try.sizeOf5
  v5 := Try.zeroValue5
  t9 := Try.underlying9
  a9 := Try.isAgg9
  z9 := Try.sizeOf9
  v9 := Try.zeroValue9
  t46 := Try.underlying128
  a46 := Try.isAgg128
  z46 := Try.sizeOf128
  v46 := Try.zeroValue128
  t51 := Try.underlying132
  a51 := Try.isAgg132
  z51 := Try.sizeOf132
  v51 := Try.zeroValue132
  t146 := Try.underlying133
  a146 := Try.isAgg133
  z146 := Try.sizeOf133
  v146 := Try.zeroValue133 }
open Go.RowKit Go.Lib in
theorem Try.bytealg_IndexRabinKarp (s sep : ByteArray) (h1 : 1 ≤ sep.size) (h2 : sep.size ≤ s.size) (hs : s.size < 4294967281) (w : World) :
    Calls Try.prog 129 #[.string s, .string sep] w fun e w' => e = .returned (.int .i64 (Lib.index s.data.toList sep.data.toList)) ∧ w' = w := Any.bytealg_IndexRabinKarp Try.lays267 s sep h1 h2 hs w
def Try.lays219_ren : Go.Shelf.Ren := ⟨fun | 219 => 121 | 217 => 109 | 225 => 127 | 224 => 128 | 267 => 129 | 266 => 122 | 314 => 133 | n => n, fun | 9 => 9 | 3 => 3 | 4 => 4 | 5 => 5 | 46 => 128 | 146 => 133 | 51 => 132 | n => n, fun | 1 => 0 | n => n⟩
theorem Try.lays219 : Go.Proofs.Lays.n219 Try.prog Try.lays219_ren := {
  mixed := by kernel_rfl
  f217 := Try.func109.trans (congrArg some (by kernel_rfl))
  f219 := Try.func121.trans (congrArg some (by kernel_rfl))
  f224 := Try.func128.trans (congrArg some (by kernel_rfl))
  f225 := Try.func127.trans (congrArg some (by kernel_rfl))
  f266 := Try.func122.trans (congrArg some (by kernel_rfl))
  f267 := Try.func129.trans (congrArg some (by kernel_rfl))
  f314 := Try.func133.trans (congrArg some (by kernel_rfl))
  t3 := Try.underlying3
  a3 := Try.isAgg3
  z3 := Try.sizeOf3
  v3 := Try.zeroValue3
  t4 := Try.underlying4
  a4 := Try.isAgg4
  z4 := Try.sizeOf4
  v4 := Try.zeroValue4
  t5 := Try.underlying5
  a5 := Try.isAgg5
  z5 := Try.sizeOf5
  v5 := Try.zeroValue5
  t9 := Try.underlying9
  a9 := Try.isAgg9
  z9 := Try.sizeOf9
  v9 := Try.zeroValue9
  t46 := Try.underlying128
  a46 := Try.isAgg128
  z46 := Try.sizeOf128
  v46 := Try.zeroValue128
  t51 := Try.underlying132
  a51 := Try.isAgg132
  z51 := Try.sizeOf132
  v51 := Try.zeroValue132
  t146 := Try.underlying133
  a146 := Try.isAgg133
  z146 := Try.sizeOf133
  v146 := Try.zeroValue133
  g1 := by kernel_rfl }
open Go.RowKit Go.Lib in
theorem Try.stringslite_Index_one (s : ByteArray) (c : UInt8) (w : World) :
    Calls Try.prog 121 #[.string s, .string ⟨#[c]⟩] w fun e w' => e = .returned (.int .i64 (Lib.indexByte s.data.toList c)) ∧ w' = w := Any.stringslite_Index_one Try.lays219 s c w
open Go.RowKit Go.Lib in
theorem Try.stringslite_Index (s sub : ByteArray) (m : Int) (w : World) (hs : s.size < 4294967281) (hm : w.cell? ⟨0, 0, none⟩ = some (.int .i64 m)) :
    Calls Try.prog 121 #[.string s, .string sub] w fun e w' => e = .returned (.int .i64 (Lib.index s.data.toList sub.data.toList)) ∧ w' = w := Any.stringslite_Index Try.lays219 s sub m w hs hm
def Try.lays143_ren : Go.Shelf.Ren := ⟨fun | 143 => 108 | 219 => 121 | 217 => 109 | 225 => 127 | 224 => 128 | 267 => 129 | 266 => 122 | 314 => 133 | n => n, fun | 9 => 9 | 3 => 3 | 4 => 4 | 5 => 5 | 46 => 128 | 146 => 133 | 51 => 132 | n => n, fun | 1 => 0 | n => n⟩
theorem Try.lays143 : Go.Proofs.Lays.n143 Try.prog Try.lays143_ren := {
  mixed := by kernel_rfl
  f143 := Try.func108.trans (congrArg some (by kernel_rfl))
  f217 := Try.func109.trans (congrArg some (by kernel_rfl))
  f219 := Try.func121.trans (congrArg some (by kernel_rfl))
  f224 := Try.func128.trans (congrArg some (by kernel_rfl))
  f225 := Try.func127.trans (congrArg some (by kernel_rfl))
  f266 := Try.func122.trans (congrArg some (by kernel_rfl))
  f267 := Try.func129.trans (congrArg some (by kernel_rfl))
  f314 := Try.func133.trans (congrArg some (by kernel_rfl))
  t3 := Try.underlying3
  a3 := Try.isAgg3
  z3 := Try.sizeOf3
  v3 := Try.zeroValue3
  t4 := Try.underlying4
  a4 := Try.isAgg4
  z4 := Try.sizeOf4
  v4 := Try.zeroValue4
  t5 := Try.underlying5
  a5 := Try.isAgg5
  z5 := Try.sizeOf5
  v5 := Try.zeroValue5
  t9 := Try.underlying9
  a9 := Try.isAgg9
  z9 := Try.sizeOf9
  v9 := Try.zeroValue9
  t46 := Try.underlying128
  a46 := Try.isAgg128
  z46 := Try.sizeOf128
  v46 := Try.zeroValue128
  t51 := Try.underlying132
  a51 := Try.isAgg132
  z51 := Try.sizeOf132
  v51 := Try.zeroValue132
  t146 := Try.underlying133
  a146 := Try.isAgg133
  z146 := Try.sizeOf133
  v146 := Try.zeroValue133
  g1 := by kernel_rfl }
open Go.RowKit Go.Lib in
theorem Try.strings_Index_one (s : ByteArray) (c : UInt8) (w : World) :
    Calls Try.prog 108 #[.string s, .string ⟨#[c]⟩] w fun e w' => e = .returned (.int .i64 (Lib.indexByte s.data.toList c)) ∧ w' = w := Any.strings_Index_one Try.lays143 s c w
open Go.RowKit Go.Lib in
theorem Try.strings_Index (s sub : ByteArray) (m : Int) (w : World) (hs : s.size < 4294967281) (hm : w.cell? ⟨0, 0, none⟩ = some (.int .i64 m)) :
    Calls Try.prog 108 #[.string s, .string sub] w fun e w' => e = .returned (.int .i64 (Lib.index s.data.toList sub.data.toList)) ∧ w' = w := Any.strings_Index Try.lays143 s sub m w hs hm
def Try.lays144_ren : Go.Shelf.Ren := ⟨fun | 144 => 83 | 143 => 108 | 219 => 121 | 217 => 109 | 225 => 127 | 224 => 128 | 267 => 129 | 266 => 122 | 314 => 133 | n => n, fun | 9 => 9 | 4 => 4 | 3 => 3 | 5 => 5 | 46 => 128 | 146 => 133 | 51 => 132 | n => n, fun | 1 => 0 | n => n⟩
theorem Try.lays144 : Go.Proofs.Lays.n144 Try.prog Try.lays144_ren := {
  mixed := by kernel_rfl
  f143 := Try.func108.trans (congrArg some (by kernel_rfl))
  f144 := Try.func83.trans (congrArg some (by kernel_rfl))
  f217 := Try.func109.trans (congrArg some (by kernel_rfl))
  f219 := Try.func121.trans (congrArg some (by kernel_rfl))
  f224 := Try.func128.trans (congrArg some (by kernel_rfl))
  f225 := Try.func127.trans (congrArg some (by kernel_rfl))
  f266 := Try.func122.trans (congrArg some (by kernel_rfl))
  f267 := Try.func129.trans (congrArg some (by kernel_rfl))
  f314 := Try.func133.trans (congrArg some (by kernel_rfl))
  t3 := Try.underlying3
  a3 := Try.isAgg3
  z3 := Try.sizeOf3
  v3 := Try.zeroValue3
  t4 := Try.underlying4
  a4 := Try.isAgg4
  z4 := Try.sizeOf4
  v4 := Try.zeroValue4
  t5 := Try.underlying5
  a5 := Try.isAgg5
  z5 := Try.sizeOf5
  v5 := Try.zeroValue5
  t9 := Try.underlying9
  a9 := Try.isAgg9
  z9 := Try.sizeOf9
  v9 := Try.zeroValue9
  t46 := Try.underlying128
  a46 := Try.isAgg128
  z46 := Try.sizeOf128
  v46 := Try.zeroValue128
  t51 := Try.underlying132
  a51 := Try.isAgg132
  z51 := Try.sizeOf132
  v51 := Try.zeroValue132
  t146 := Try.underlying133
  a146 := Try.isAgg133
  z146 := Try.sizeOf133
  v146 := Try.zeroValue133
  g1 := by kernel_rfl }
open Go.RowKit Go.Lib in
theorem Try.strings_Contains_one (s : ByteArray) (c : UInt8) (w : World) :
    Calls Try.prog 83 #[.string s, .string ⟨#[c]⟩] w fun e w' => e = .returned (.bool (decide (0 ≤ Lib.indexByte s.data.toList c))) ∧ w' = w := Any.strings_Contains_one Try.lays144 s c w
open Go.RowKit Go.Lib in
theorem Try.strings_Contains (s sub : ByteArray) (m : Int) (w : World) (hs : s.size < 4294967281) (hm : w.cell? ⟨0, 0, none⟩ = some (.int .i64 m)) :
    Calls Try.prog 83 #[.string s, .string sub] w fun e w' => e = .returned (.bool (Lib.contains s.data.toList sub.data.toList)) ∧ w' = w := Any.strings_Contains Try.lays144 s sub m w hs hm
def Try.laysM219_ren : Go.Shelf.Ren := ⟨fun | 219 => 121 | 217 => 109 | 225 => 127 | 224 => 128 | 267 => 129 | 266 => 122 | 314 => 133 | n => n, fun | 9 => 9 | 3 => 3 | 4 => 4 | 5 => 5 | 46 => 128 | 146 => 133 | 51 => 132 | n => n, fun | 1 => 0 | n => n⟩
theorem Try.laysM219 : Go.Proofs.LaysM.n219 Try.prog Try.laysM219_ren := {
  mixed := by kernel_rfl
  f217 := Try.func109.trans (congrArg some (by kernel_rfl))
  f219 := Try.func121.trans (congrArg some (by kernel_rfl))
  f224 := Try.func128.trans (congrArg some (by kernel_rfl))
  f225 := Try.func127.trans (congrArg some (by kernel_rfl))
  f266 := Try.func122.trans (congrArg some (by kernel_rfl))
  f267 := Try.func129.trans (congrArg some (by kernel_rfl))
  f314 := Try.func133.trans (congrArg some (by kernel_rfl))
  t3 := Try.underlying3
  a3 := Try.isAgg3
  z3 := Try.sizeOf3
  v3 := Try.zeroValue3
  t4 := Try.underlying4
  a4 := Try.isAgg4
  z4 := Try.sizeOf4
  v4 := Try.zeroValue4
  t5 := Try.underlying5
  a5 := Try.isAgg5
  z5 := Try.sizeOf5
  v5 := Try.zeroValue5
  t9 := Try.underlying9
  a9 := Try.isAgg9
  z9 := Try.sizeOf9
  v9 := Try.zeroValue9
  t46 := Try.underlying128
  a46 := Try.isAgg128
  z46 := Try.sizeOf128
  v46 := Try.zeroValue128
  t51 := Try.underlying132
  a51 := Try.isAgg132
  z51 := Try.sizeOf132
  v51 := Try.zeroValue132
  t146 := Try.underlying133
  a146 := Try.isAgg133
  z146 := Try.sizeOf133
  v146 := Try.zeroValue133
  g1 := by kernel_rfl
  i3 := by kernel_rfl
  i4 := by kernel_rfl
  i5 := by kernel_rfl
  i9 := by kernel_rfl
  i46 := by kernel_rfl
  i51 := by kernel_rfl
  i146 := by kernel_rfl
  m1 := by kernel_rfl
  s1_3 := fun w h => Go.Proofs.cell_of_shapedOpen_int (zero := #[.int .i64 0]) (t := 3) h (of_decide_eq_true (by kernel_rfl)) (by kernel_rfl) rfl (by kernel_rfl) (by kernel_rfl) Try.underlying3 }
open Go.RowKit Go.Lib in
theorem Try.stringslite_Index_shaped (s sub : ByteArray) (w : World) (h : w.ShapedOpen Try.prog) (hs : s.size < 4294967281) :
    Calls Try.prog 121 #[.string s, .string sub] w fun e w' => e = .returned (.int .i64 (Lib.index s.data.toList sub.data.toList)) ∧ w' = w := Any.stringslite_Index_shaped Try.laysM219 s sub w h hs
def Try.laysM143_ren : Go.Shelf.Ren := ⟨fun | 143 => 108 | 219 => 121 | 217 => 109 | 225 => 127 | 224 => 128 | 267 => 129 | 266 => 122 | 314 => 133 | n => n, fun | 9 => 9 | 3 => 3 | 4 => 4 | 5 => 5 | 46 => 128 | 146 => 133 | 51 => 132 | n => n, fun | 1 => 0 | n => n⟩
theorem Try.laysM143 : Go.Proofs.LaysM.n143 Try.prog Try.laysM143_ren := {
  mixed := by kernel_rfl
  f143 := Try.func108.trans (congrArg some (by kernel_rfl))
  f217 := Try.func109.trans (congrArg some (by kernel_rfl))
  f219 := Try.func121.trans (congrArg some (by kernel_rfl))
  f224 := Try.func128.trans (congrArg some (by kernel_rfl))
  f225 := Try.func127.trans (congrArg some (by kernel_rfl))
  f266 := Try.func122.trans (congrArg some (by kernel_rfl))
  f267 := Try.func129.trans (congrArg some (by kernel_rfl))
  f314 := Try.func133.trans (congrArg some (by kernel_rfl))
  t3 := Try.underlying3
  a3 := Try.isAgg3
  z3 := Try.sizeOf3
  v3 := Try.zeroValue3
  t4 := Try.underlying4
  a4 := Try.isAgg4
  z4 := Try.sizeOf4
  v4 := Try.zeroValue4
  t5 := Try.underlying5
  a5 := Try.isAgg5
  z5 := Try.sizeOf5
  v5 := Try.zeroValue5
  t9 := Try.underlying9
  a9 := Try.isAgg9
  z9 := Try.sizeOf9
  v9 := Try.zeroValue9
  t46 := Try.underlying128
  a46 := Try.isAgg128
  z46 := Try.sizeOf128
  v46 := Try.zeroValue128
  t51 := Try.underlying132
  a51 := Try.isAgg132
  z51 := Try.sizeOf132
  v51 := Try.zeroValue132
  t146 := Try.underlying133
  a146 := Try.isAgg133
  z146 := Try.sizeOf133
  v146 := Try.zeroValue133
  g1 := by kernel_rfl
  i3 := by kernel_rfl
  i4 := by kernel_rfl
  i5 := by kernel_rfl
  i9 := by kernel_rfl
  i46 := by kernel_rfl
  i51 := by kernel_rfl
  i146 := by kernel_rfl
  m1 := by kernel_rfl
  s1_3 := fun w h => Go.Proofs.cell_of_shapedOpen_int (zero := #[.int .i64 0]) (t := 3) h (of_decide_eq_true (by kernel_rfl)) (by kernel_rfl) rfl (by kernel_rfl) (by kernel_rfl) Try.underlying3 }
open Go.RowKit Go.Lib in
theorem Try.strings_Index_shaped (s sub : ByteArray) (w : World) (h : w.ShapedOpen Try.prog) (hs : s.size < 4294967281) :
    Calls Try.prog 108 #[.string s, .string sub] w fun e w' => e = .returned (.int .i64 (Lib.index s.data.toList sub.data.toList)) ∧ w' = w := Any.strings_Index_shaped Try.laysM143 s sub w h hs
def Try.laysM144_ren : Go.Shelf.Ren := ⟨fun | 144 => 83 | 143 => 108 | 219 => 121 | 217 => 109 | 225 => 127 | 224 => 128 | 267 => 129 | 266 => 122 | 314 => 133 | n => n, fun | 9 => 9 | 4 => 4 | 3 => 3 | 5 => 5 | 46 => 128 | 146 => 133 | 51 => 132 | n => n, fun | 1 => 0 | n => n⟩
theorem Try.laysM144 : Go.Proofs.LaysM.n144 Try.prog Try.laysM144_ren := {
  mixed := by kernel_rfl
  f143 := Try.func108.trans (congrArg some (by kernel_rfl))
  f144 := Try.func83.trans (congrArg some (by kernel_rfl))
  f217 := Try.func109.trans (congrArg some (by kernel_rfl))
  f219 := Try.func121.trans (congrArg some (by kernel_rfl))
  f224 := Try.func128.trans (congrArg some (by kernel_rfl))
  f225 := Try.func127.trans (congrArg some (by kernel_rfl))
  f266 := Try.func122.trans (congrArg some (by kernel_rfl))
  f267 := Try.func129.trans (congrArg some (by kernel_rfl))
  f314 := Try.func133.trans (congrArg some (by kernel_rfl))
  t3 := Try.underlying3
  a3 := Try.isAgg3
  z3 := Try.sizeOf3
  v3 := Try.zeroValue3
  t4 := Try.underlying4
  a4 := Try.isAgg4
  z4 := Try.sizeOf4
  v4 := Try.zeroValue4
  t5 := Try.underlying5
  a5 := Try.isAgg5
  z5 := Try.sizeOf5
  v5 := Try.zeroValue5
  t9 := Try.underlying9
  a9 := Try.isAgg9
  z9 := Try.sizeOf9
  v9 := Try.zeroValue9
  t46 := Try.underlying128
  a46 := Try.isAgg128
  z46 := Try.sizeOf128
  v46 := Try.zeroValue128
  t51 := Try.underlying132
  a51 := Try.isAgg132
  z51 := Try.sizeOf132
  v51 := Try.zeroValue132
  t146 := Try.underlying133
  a146 := Try.isAgg133
  z146 := Try.sizeOf133
  v146 := Try.zeroValue133
  g1 := by kernel_rfl
  i3 := by kernel_rfl
  i4 := by kernel_rfl
  i5 := by kernel_rfl
  i9 := by kernel_rfl
  i46 := by kernel_rfl
  i51 := by kernel_rfl
  i146 := by kernel_rfl
  m1 := by kernel_rfl
  s1_3 := fun w h => Go.Proofs.cell_of_shapedOpen_int (zero := #[.int .i64 0]) (t := 3) h (of_decide_eq_true (by kernel_rfl)) (by kernel_rfl) rfl (by kernel_rfl) (by kernel_rfl) Try.underlying3 }
open Go.RowKit Go.Lib in
theorem Try.strings_Contains_shaped (s sub : ByteArray) (w : World) (h : w.ShapedOpen Try.prog) (hs : s.size < 4294967281) :
    Calls Try.prog 83 #[.string s, .string sub] w fun e w' => e = .returned (.bool (Lib.contains s.data.toList sub.data.toList)) ∧ w' = w := Any.strings_Contains_shaped Try.laysM144 s sub w h hs
def Try.lays315_ren : Go.Shelf.Ren := ⟨fun | 315 => 120 | n => n, fun | 9 => 9 | 40 => 96 | 4 => 4 | 3 => 3 | 0 => 0 | 21 => 21 | n => n, fun | n => n⟩
theorem Try.lays315 : Go.Proofs.Lays.n315 Try.prog Try.lays315_ren := {
  mixed := by kernel_rfl
  f315 := Try.func120.trans (congrArg some (by kernel_rfl))
  t0 := Try.underlying0
  a0 := Try.isAgg0
  z0 := Try.sizeOf0
  v0 := Try.zeroValue0
  t3 := Try.underlying3
  a3 := Try.isAgg3
  z3 := Try.sizeOf3
  v3 := Try.zeroValue3
  t4 := Try.underlying4
  a4 := Try.isAgg4
  z4 := Try.sizeOf4
  v4 := Try.zeroValue4
  t9 := Try.underlying9
  a9 := Try.isAgg9
  z9 := Try.sizeOf9
  v9 := Try.zeroValue9
  t21 := Try.underlying21
  a21 := Try.isAgg21
  z21 := Try.sizeOf21
  v21 := Try.zeroValue21
  t40 := Try.underlying96
  a40 := Try.isAgg96
  z40 := Try.sizeOf96
  v40 := Try.zeroValue96 }
open Go.RowKit Go.Lib in
theorem Try.strings_indexFunc (g : Nat) (lb : Array Value) (eg : ∀ args w, (callFunc g args).run Try.prog w = .ok (.enter g args) w) (p : Nat → Bool) (truth : Bool) (s : ByteArray) (w : World) (hp : PredAt Try.prog g lb encR p w) :
    Calls Try.prog 120 #[.string s, .func (.func g) #[] lb, .bool truth] w fun e w' => e = .returned (.int .i64 (Lib.idxFunc p truth s)) ∧ Below w.heap.size w w' := Any.strings_indexFunc Try.lays315 g lb eg p truth s w hp
def Try.laysGw15_ren : Go.Shelf.Ren := ⟨fun | 15 => 107 | 20 => 120 | n => n, fun | 9 => 9 | 23 => 96 | 3 => 3 | 4 => 4 | 0 => 0 | 21 => 21 | n => n, fun | n => n⟩
theorem Try.laysGw15 : Go.Proofs.LaysGw.n15 Try.prog Try.laysGw15_ren := {
  mixed := by kernel_rfl
  f15 := Try.func107.trans (congrArg some (by kernel_rfl))
  f20 := Try.func120.trans (congrArg some (by kernel_rfl))
  t0 := Try.underlying0
  a0 := Try.isAgg0
  z0 := Try.sizeOf0
  v0 := Try.zeroValue0
  i0 := by kernel_rfl
  t3 := Try.underlying3
  a3 := Try.isAgg3
  z3 := Try.sizeOf3
  v3 := Try.zeroValue3
  i3 := by kernel_rfl
  t4 := Try.underlying4
  a4 := Try.isAgg4
  z4 := Try.sizeOf4
  v4 := Try.zeroValue4
  i4 := by kernel_rfl
  t9 := Try.underlying9
  a9 := Try.isAgg9
  z9 := Try.sizeOf9
  v9 := Try.zeroValue9
  i9 := by kernel_rfl
  t21 := Try.underlying21
  a21 := Try.isAgg21
  z21 := Try.sizeOf21
  v21 := Try.zeroValue21
  i21 := by kernel_rfl
  t23 := Try.underlying96
  a23 := Try.isAgg96
  z23 := Try.sizeOf96
  v23 := Try.zeroValue96
  i23 := by kernel_rfl }
open Go.RowKit Go.Lib in
theorem Try.strings_IndexFunc (g : Nat) (lb : Array Value) (eg : ∀ args w, (callFunc g args).run Try.prog w = .ok (.enter g args) w) (p : Nat → Bool) (s : ByteArray) (w : World) (hp : PredAt Try.prog g lb encR p w) :
    Calls Try.prog 107 #[.string s, .func (.func g) #[] lb] w fun e w' => e = .returned (.int .i64 (Lib.idxFunc p true s)) ∧ Below w.heap.size w w' := Any.strings_IndexFunc Try.laysGw15 g lb eg p s w hp
def Try.laysGw17_ren : Go.Shelf.Ren := ⟨fun | 17 => 81 | 15 => 107 | 20 => 120 | n => n, fun | 9 => 9 | 23 => 96 | 4 => 4 | 3 => 3 | 0 => 0 | 21 => 21 | n => n, fun | n => n⟩
theorem Try.laysGw17 : Go.Proofs.LaysGw.n17 Try.prog Try.laysGw17_ren := {
  mixed := by kernel_rfl
  f15 := Try.func107.trans (congrArg some (by kernel_rfl))
  f17 := Try.func81.trans (congrArg some (by kernel_rfl))
  f20 := Try.func120.trans (congrArg some (by kernel_rfl))
  t0 := Try.underlying0
  a0 := Try.isAgg0
  z0 := Try.sizeOf0
  v0 := Try.zeroValue0
  i0 := by kernel_rfl
  t3 := Try.underlying3
  a3 := Try.isAgg3
  z3 := Try.sizeOf3
  v3 := Try.zeroValue3
  i3 := by kernel_rfl
  t4 := Try.underlying4
  a4 := Try.isAgg4
  z4 := Try.sizeOf4
  v4 := Try.zeroValue4
  i4 := by kernel_rfl
  t9 := Try.underlying9
  a9 := Try.isAgg9
  z9 := Try.sizeOf9
  v9 := Try.zeroValue9
  i9 := by kernel_rfl
  t21 := Try.underlying21
  a21 := Try.isAgg21
  z21 := Try.sizeOf21
  v21 := Try.zeroValue21
  i21 := by kernel_rfl
  t23 := Try.underlying96
  a23 := Try.isAgg96
  z23 := Try.sizeOf96
  v23 := Try.zeroValue96
  i23 := by kernel_rfl }
open Go.RowKit Go.Lib in
theorem Try.strings_ContainsFunc (g : Nat) (lb : Array Value) (eg : ∀ args w, (callFunc g args).run Try.prog w = .ok (.enter g args) w) (p : Nat → Bool) (s : ByteArray) (w : World) (hp : PredAt Try.prog g lb encR p w) :
    Calls Try.prog 81 #[.string s, .func (.func g) #[] lb] w fun e w' => e = .returned (.bool (decide (0 ≤ Lib.idxFunc p true s))) ∧ Below w.heap.size w w' := Any.strings_ContainsFunc Try.laysGw17 g lb eg p s w hp
open Go.RowKit Go.Lib in
theorem Try.strings_indexFunc_runes (g : Nat) (lb : Array Value) (eg : ∀ args w, (callFunc g args).run Try.prog w = .ok (.enter g args) w) (p : Nat → Bool) (truth : Bool) (s : ByteArray) (w : World) (hp : PredAtRunes Try.prog g lb p w) :
    Calls Try.prog 120 #[.string s, .func (.func g) #[] lb, .bool truth] w fun e w' => e = .returned (.int .i64 (Lib.idxFunc p truth s)) ∧ Below w.heap.size w w' := Any.strings_indexFunc_runes Try.lays315 g lb eg p truth s w hp
open Go.RowKit Go.Lib in
theorem Try.strings_IndexFunc_runes (g : Nat) (lb : Array Value) (eg : ∀ args w, (callFunc g args).run Try.prog w = .ok (.enter g args) w) (p : Nat → Bool) (s : ByteArray) (w : World) (hp : PredAtRunes Try.prog g lb p w) :
    Calls Try.prog 107 #[.string s, .func (.func g) #[] lb] w fun e w' => e = .returned (.int .i64 (Lib.idxFunc p true s)) ∧ Below w.heap.size w w' := Any.strings_IndexFunc_runes Try.laysGw15 g lb eg p s w hp
open Go.RowKit Go.Lib in
theorem Try.strings_ContainsFunc_runes (g : Nat) (lb : Array Value) (eg : ∀ args w, (callFunc g args).run Try.prog w = .ok (.enter g args) w) (p : Nat → Bool) (s : ByteArray) (w : World) (hp : PredAtRunes Try.prog g lb p w) :
    Calls Try.prog 81 #[.string s, .func (.func g) #[] lb] w fun e w' => e = .returned (.bool (decide (0 ≤ Lib.idxFunc p true s))) ∧ Below w.heap.size w w' := Any.strings_ContainsFunc_runes Try.laysGw17 g lb eg p s w hp
def Try.lays206_ren : Go.Shelf.Ren := ⟨fun | 206 => 119 | n => n, fun | 9 => 9 | 4 => 4 | 3 => 3 | n => n, fun | n => n⟩
theorem Try.lays206 : Go.Proofs.Lays.n206 Try.prog Try.lays206_ren := {
  mixed := by kernel_rfl
  f206 := Try.func119.trans (congrArg some (by kernel_rfl))
  t3 := Try.underlying3
  a3 := Try.isAgg3
  z3 := Try.sizeOf3
  v3 := Try.zeroValue3
  t4 := Try.underlying4
  a4 := Try.isAgg4
  z4 := Try.sizeOf4
  v4 := Try.zeroValue4
  t9 := Try.underlying9
  a9 := Try.isAgg9
  z9 := Try.sizeOf9
  v9 := Try.zeroValue9 }
open Go.RowKit Go.Lib in
theorem Try.stringslite_HasPrefix (s p : ByteArray) (w : World) :
    Calls Try.prog 119 #[.string s, .string p] w fun e w' => e = .returned (.bool (Lib.hasPrefix s.data.toList p.data.toList)) ∧ w' = w := Any.stringslite_HasPrefix Try.lays206 s p w
def Try.lays208_ren : Go.Shelf.Ren := ⟨fun | 208 => 106 | 206 => 119 | n => n, fun | 9 => 9 | 4 => 4 | 3 => 3 | n => n, fun | n => n⟩
theorem Try.lays208 : Go.Proofs.Lays.n208 Try.prog Try.lays208_ren := {
  mixed := by kernel_rfl
  f206 := Try.func119.trans (congrArg some (by kernel_rfl))
  f208 := Try.func106.trans (congrArg some (by kernel_rfl))
  t3 := Try.underlying3
  a3 := Try.isAgg3
  z3 := Try.sizeOf3
  v3 := Try.zeroValue3
  t4 := Try.underlying4
  a4 := Try.isAgg4
  z4 := Try.sizeOf4
  v4 := Try.zeroValue4
  t9 := Try.underlying9
  a9 := Try.isAgg9
  z9 := Try.sizeOf9
  v9 := Try.zeroValue9 }
open Go.RowKit Go.Lib in
theorem Try.stringslite_TrimPrefix (s p : ByteArray) (w : World) :
    Calls Try.prog 106 #[.string s, .string p] w fun e w' => e = .returned (.string ⟨(Lib.trimPrefix s.data.toList p.data.toList).toArray⟩) ∧ w' = w := Any.stringslite_TrimPrefix Try.lays208 s p w
def Try.lays101_ren : Go.Shelf.Ren := ⟨fun | 101 => 80 | 208 => 106 | 206 => 119 | n => n, fun | 9 => 9 | 4 => 4 | 3 => 3 | n => n, fun | n => n⟩
theorem Try.lays101 : Go.Proofs.Lays.n101 Try.prog Try.lays101_ren := {
  mixed := by kernel_rfl
  f101 := Try.func80.trans (congrArg some (by kernel_rfl))
  f206 := Try.func119.trans (congrArg some (by kernel_rfl))
  f208 := Try.func106.trans (congrArg some (by kernel_rfl))
  t3 := Try.underlying3
  a3 := Try.isAgg3
  z3 := Try.sizeOf3
  v3 := Try.zeroValue3
  t4 := Try.underlying4
  a4 := Try.isAgg4
  z4 := Try.sizeOf4
  v4 := Try.zeroValue4
  t9 := Try.underlying9
  a9 := Try.isAgg9
  z9 := Try.sizeOf9
  v9 := Try.zeroValue9 }
open Go.RowKit Go.Lib in
theorem Try.strings_TrimPrefix (s p : ByteArray) (w : World) :
    Calls Try.prog 80 #[.string s, .string p] w fun e w' => e = .returned (.string ⟨(Lib.trimPrefix s.data.toList p.data.toList).toArray⟩) ∧ w' = w := Any.strings_TrimPrefix Try.lays101 s p w
open Go.RowKit Go.Lib in
theorem Try.strings_indexFunc_grows (g : Nat) (lb : Array Value) (eg : ∀ args w, (callFunc g args).run Try.prog w = .ok (.enter g args) w) (p : Nat → Bool) (truth : Bool) (s : ByteArray) (w : World) (hp : PredGrows Try.prog g lb p w) :
    Calls Try.prog 120 #[.string s, .func (.func g) #[] lb, .bool truth] w fun e w' => e = .returned (.int .i64 (Lib.idxFunc p truth s)) ∧ Below w.heap.size w w' := Any.strings_indexFunc_grows Try.lays315 g lb eg p truth s w hp
open Go.RowKit Go.Lib in
theorem Try.strings_IndexFunc_grows (g : Nat) (lb : Array Value) (eg : ∀ args w, (callFunc g args).run Try.prog w = .ok (.enter g args) w) (p : Nat → Bool) (s : ByteArray) (w : World) (hp : PredGrows Try.prog g lb p w) :
    Calls Try.prog 107 #[.string s, .func (.func g) #[] lb] w fun e w' => e = .returned (.int .i64 (Lib.idxFunc p true s)) ∧ Below w.heap.size w w' := Any.strings_IndexFunc_grows Try.laysGw15 g lb eg p s w hp
open Go.RowKit Go.Lib in
theorem Try.strings_ContainsFunc_grows (g : Nat) (lb : Array Value) (eg : ∀ args w, (callFunc g args).run Try.prog w = .ok (.enter g args) w) (p : Nat → Bool) (s : ByteArray) (w : World) (hp : PredGrows Try.prog g lb p w) :
    Calls Try.prog 81 #[.string s, .func (.func g) #[] lb] w fun e w' => e = .returned (.bool (decide (0 ≤ Lib.idxFunc p true s))) ∧ Below w.heap.size w w' := Any.strings_ContainsFunc_grows Try.laysGw17 g lb eg p s w hp
end Go.Proofs
end
section
namespace Go.Proofs.Ytdelccahgchadaa.P
open Go.RowKit Go.Shelf Go.Lib Go.Proofs.YtdelccahgchadaaW.PrintWords Go.Proofs.YtdelccahgchadaaW.PrintLast Go.Proofs.YtdelccahgchadaaW.PrintMore
set_option linter.unusedVariables false
set_option linter.unusedSimpArgs false
def strings_TrimPrefix.f (a0 a1 : ByteArray) : Option ByteArray := some ⟨(Lib.trimPrefix a0.data.toList a1.data.toList).toArray⟩
theorem strings_TrimPrefix.calls (a0 a1 r : ByteArray) (w : World) (h : strings_TrimPrefix.f a0 a1 = some r) :
  Calls Try.prog 80 #[.string a0, .string a1] w fun e w' => e = .returned (.string r) ∧ Drawn0 w w' := by
 obtain rfl := Option.some.inj h
 refine (Try.strings_TrimPrefix a0 a1 w).mono ?_
 rintro e w' ⟨rfl, rfl⟩
 exact ⟨rfl, Drawn0.refl _⟩
def strings_IndexByte.f (a0 : ByteArray) (a1 : Int) : Option Int := some (Lib.indexByte a0.data.toList a1.toNat.toUInt8)
theorem strings_IndexByte.calls (a0 : ByteArray) (a1 : Int) (r : Int) (w : World) (h : strings_IndexByte.f a0 a1 = some r) :
  Calls Try.prog 90 #[.string a0, .int .u8 a1] w fun e w' => e = .returned (.int .i64 r) ∧ Drawn0 w w' := by
 obtain rfl := Option.some.inj h
 refine (Try.strings_IndexByte a0 a1 w).mono ?_
 rintro e w' ⟨rfl, rfl⟩
 exact ⟨rfl, Drawn0.refl _⟩
theorem spot_none {w : World} {bk o : Nat} {sp : Option Nat} {v : Value} (h : w.cell? ((⟨bk, o, sp⟩ : Addr).add 0) = some v) : sp = none := by
 cases sp with
 | none => rfl
 | some n =>
  exfalso
  unfold World.cell? Addr.add at h
  simp at h
  split at h <;> simp at h
def joinB (l : List ByteArray) (sep : ByteArray) : List UInt8 := Lib.join (l.map (·.data.toList)) sep.data.toList
def strings_Join.f (l0 : List ByteArray) (a1 : ByteArray) : Option ByteArray := if l0.length ≤ 140737488355328 ∧ (joinB l0 a1).length ≤ 140737488355328 then some ⟨(joinB l0 a1).toArray⟩ else none
theorem strings_Join.calls (A0 : Option Addr) (c0 : Nat) (l0 : List ByteArray) (a1 : ByteArray) (r : ByteArray) (w : World) (hr0 : Kd.C Kd.string w A0 l0.length l0) (hc0 : l0.length ≤ c0) (h : strings_Join.f l0 a1 = some r) :
  Calls Try.prog 103 #[.slice A0 l0.length c0, .string a1] w fun e w' => e = .returned (.string r) ∧ Below w.heap.size w w' := by
 unfold strings_Join.f at h
 by_cases hb : l0.length ≤ 140737488355328 ∧ (joinB l0 a1).length ≤ 140737488355328
 ·rw [if_pos hb] at h
  obtain rfl := Option.some.inj h
  by_cases h0 : l0 = []
  ·subst h0
   refine (Try.strings_Join_none A0 c0 a1 w).mono ?_
   rintro e w' ⟨rfl, rfl⟩
   exact ⟨by simp [joinB, Lib.join], Below.refl _ _⟩
  ·obtain ⟨ad, rfl, hc⟩ := hr0.2.2 (by cases l0 with | nil => exact absurd rfl h0 | cons => simp)
   have hcell : ∀ j x, l0[j]? = some x → w.cell? (ad.add j) = some (.string x) := fun j x hj => by
    obtain ⟨c, hs, rfl, hcc⟩ := hc j x hj
    have := hcc 0 _ rfl
    rw [show (Kd.string).sz = 1 from rfl, Nat.mul_one, Nat.add_zero] at this
    exact this
   obtain ⟨x0, hx0⟩ : ∃ x, l0[0]? = some x := by
    cases l0 with
    | nil => exact absurd rfl h0
    | cons x l => exact ⟨x, rfl⟩
   have h1 := hcell 0 x0 hx0
   have hlt := World.block_lt_of_cell? w _ h1
   obtain ⟨bk, o, sp⟩ := ad
   obtain rfl : sp = none := spot_none h1
   refine (Try.strings_Join bk o c0 l0 a1 w (fun j x hj => ?_) hlt hb.1 hc0 hb.2).mono ?_
   ·rw [← hcell j x hj]
    by_cases hj0 : j = 0
    ·subst hj0; rfl
    ·simp [Addr.add, hj0]
   ·rintro e w' ⟨rfl, hbl⟩
    exact ⟨rfl, hbl⟩
 ·rw [if_neg hb] at h
  cases h
def noFig (r : Nat) : Bool := decide (r < 48) || decide (57 < r)
theorem may1 (w : World) : PredAt Try.prog 82 #[] encR noFig w := fun W r _ => by
 unfold FnGives
 by_cases h1 : r < 48
 all_goals by_cases h2 : 57 < r
 all_goals
  have z1 : (r : Int) < 48 ↔ r < 48 := by omega
  have z2 : (57 : Int) < (r : Int) ↔ 57 < r := by omega
  go_enter Try.func82, Try.ntmps82
  go_wp2
  all_goals first | (exfalso; omega) | (go_ret; exact ⟨by simp [noFig, h1, h2], 0, rfl⟩)
def isFig (c : UInt8) : Bool := decide (48 ≤ c.toNat) && decide (c.toNat ≤ 57)
theorem fig_idx (s : ByteArray) : ∀ (f pos : Nat), s.size ≤ pos + f → (0 ≤ Lib.idxFuncFrom noFig true s f pos ↔ ∃ j, ∃ h : j < s.size, pos ≤ j ∧ isFig s[j] = false)
 | 0, pos, hf => by
  simp only [Lib.idxFuncFrom]
  constructor
  ·intro h; omega
  ·rintro ⟨j, hj, hp, _⟩; omega
 | f + 1, pos, hf => by
  unfold Lib.idxFuncFrom
  by_cases hp : pos < s.size
  ·rw [if_pos hp]
   by_cases ha : (s[pos]'hp).toNat < 128
   ·rw [decode_ascii s pos hp ha]
    simp only []
    by_cases hg : noFig (s[pos]'hp).toNat = true
    ·rw [if_pos hg]
     constructor
     ·intro _
      refine ⟨pos, hp, Nat.le_refl _, ?_⟩
      unfold noFig at hg
      unfold isFig
      simp at hg ⊢
      omega
     ·intro _; omega
    ·rw [if_neg hg, fig_idx s f (pos + 1) (by omega)]
     constructor
     ·rintro ⟨j, hj, hle, hh⟩
      exact ⟨j, hj, by omega, hh⟩
     ·rintro ⟨j, hj, hle, hh⟩
      by_cases hjp : j = pos
      ·subst hjp
       unfold noFig at hg
       unfold isFig at hh
       simp at hg hh
       omega
      ·exact ⟨j, hj, by omega, hh⟩
   ·have hd := decode_high s pos hp (by omega)
    rw [if_pos (by unfold noFig; simp; omega)]
    constructor
    ·intro _
     refine ⟨pos, hp, Nat.le_refl _, ?_⟩
     unfold isFig
     simp
     omega
    ·intro _; omega
  ·rw [if_neg hp]
   constructor
   ·intro h; omega
   ·rintro ⟨j, hj, hle, _⟩; omega
def allFig (s : ByteArray) : Bool := s.data.toList.all isFig
theorem contains_nofig (s : ByteArray) : decide (0 ≤ Lib.idxFunc noFig true s) = !allFig s := by
 have h := fig_idx s s.size 0 (by omega)
 have e : (∃ j, ∃ h : j < s.size, 0 ≤ j ∧ isFig s[j] = false) ↔ allFig s = false := by
  unfold allFig
  rw [List.all_eq_false]
  constructor
  ·rintro ⟨j, hj, _, hh⟩
   exact ⟨s[j], by rw [Array.mem_toList_iff]; exact Array.getElem_mem hj, by rw [hh]; decide⟩
  ·rintro ⟨x, hx, hh⟩
   rw [Array.mem_toList_iff] at hx
   obtain ⟨j, hj, rfl⟩ := Array.getElem_of_mem hx
   exact ⟨j, hj, Nat.zero_le _, (Bool.not_eq_true _).mp hh⟩
 unfold Lib.idxFunc
 have h2 := h.trans e
 by_cases ha : allFig s = false
 ·rw [decide_eq_true (h2.2 ha), ha]; rfl
 ·rw [decide_eq_false (fun h3 => ha (h2.1 h3)), (Bool.not_eq_false _).mp ha]; rfl
def ContainsFunc_May.f (a0 : ByteArray) : Option Bool := some (!allFig a0)
theorem ContainsFunc_May.calls (a0 : ByteArray) (r : Bool) (w : World) (h : ContainsFunc_May.f a0 = some r) :
  Calls Try.prog 81 #[.string a0, .func (.func 82) #[] #[]] w fun e w' => e = .returned (.bool r) ∧ Below w.heap.size w w' := by
 obtain rfl := Option.some.inj h
 refine (Try.strings_ContainsFunc 82 #[] (enters_of Try.func82 (by kernel_rfl) rfl) noFig a0 w (may1 w)).mono ?_
 rintro e w' ⟨rfl, hb⟩
 exact ⟨by rw [contains_nofig], hb⟩
def runN (p : Int → Bool) (s : ByteArray) : Nat := (s.data.toList.takeWhile fun c => p (c.toNat : Int)).length
theorem runN_at (p : Int → Bool) (s : ByteArray) (k : Nat) (hk : k ≤ s.size) (h : ∀ j, ∀ hj : j < k, p ((s[j]'(by omega)).toNat : Int) = true) (he : ∀ hl : k < s.size, p ((s[k]'hl).toNat : Int) = false) : runN p s = k := by
 unfold runN
 have hl : s.data.toList = s.data.toList.take k ++ s.data.toList.drop k := (List.take_append_drop _ _).symm
 rw [hl, List.takeWhile_append_of_pos]
 ·rw [List.length_append, List.length_take]
  have h0 : (List.takeWhile (fun c : UInt8 => p (c.toNat : Int)) (List.drop k s.data.toList)) = [] := by
   by_cases hlt : k < s.size
   ·rw [List.drop_eq_getElem_cons (by simpa using hlt), List.takeWhile_cons]
    have := he hlt
    rw [if_neg]
    simp only [Array.getElem_toList]
    rw [show s.data[k] = s[k] from rfl, this]
    decide
   ·rw [List.drop_eq_nil_of_le (by simpa using Nat.le_of_not_lt hlt)]
    rfl
  rw [h0]
  have : s.data.toList.length = s.size := by simp
  simp
  omega
 ·intro a ha
  obtain ⟨i, hi, rfl⟩ := List.getElem_of_mem ha
  rw [List.length_take] at hi
  rw [List.getElem_take]
  exact h i (by omega)
set_option maxHeartbeats 1000000 in
theorem run_any (g : Nat) (eg : ∀ args w, (callFunc g args).run Try.prog w = .ok (.enter g args) w) (p : Int → Bool) (hd0 : ∀ c W, Calls Try.prog g #[.int .u8 c] W fun e w' => e = .returned (.bool (p c)) ∧ W = w')
  (s : ByteArray) (hs : s.size ≤ 4611686018427387904) (w : World) :
  Calls Try.prog 85 #[.string s, .func (.func g) #[] #[]] w fun e w' => e = .returned (.int .i64 (runN p s)) ∧ w = w' := by
 have hd := Aside0.mk hd0
 clear hd0
 go_enter Try.func85, Try.ntmps85
 go_wp2
 go_loop [5] (fun t => ∃ k : Nat, k ≤ s.size ∧ t = .int .i64 k ∧ Aside0 (∀ j, ∀ hj : j < k, ∀ hjs : j < s.size, p ((s[j]'hjs).toNat : Int) = true)) (fun t => s.size - (intOf t).toNat)
 case atStart => exact ⟨0, Nat.zero_le _, rfl, ⟨fun j hj => absurd hj (Nat.not_lt_zero _)⟩⟩
 case round =>
  obtain ⟨k, hk, rfl, hp⟩ := hrel
  by_cases hlt : k < s.size
  ·generalize hb : p ((s[k]'hlt).toNat : Int) = b
   have hB := Aside0.mk hb
   clear hb
   cases b
   ·go_wp2_with (go_at_fn g; refine (hd.out _ _).mono ?_; rintro e w' ⟨rfl, rfl⟩; rw [hB.out])
    go_ret
    exact ⟨ret_int (by rw [runN_at p s k hk (fun j hj => hp.out j hj (by omega)) (fun _ => hB.out)]), rfl⟩
   ·go_wp2_with (go_at_fn g; refine (hd.out _ _).mono ?_; rintro e w' ⟨rfl, rfl⟩; rw [hB.out])
    go_round
    case rel => exact ⟨k + 1, by omega, by go_num, ⟨fun j hj hjs => by
     by_cases hjk : j = k
     ·subst hjk; exact hB.out
     ·exact hp.out j (by omega) hjs⟩⟩
    case measure => simp [intOf]; omega
  ·go_wp2
   go_ret
   exact ⟨ret_int (by rw [runN_at p s k hk (fun j hj => hp.out j hj (by omega)) (fun hl => absurd hl hlt)]), rfl⟩
def isD (c : Int) : Bool := decide (48 ≤ c ∧ c ≤ 57)
def isLow (c : Int) : Bool := decide (97 ≤ c ∧ c ≤ 122)
def isUp (c : Int) : Bool := decide (65 ≤ c ∧ c ≤ 90)
set_option maxHeartbeats 400000 in
theorem figure_any (c : Int) (w : World) : Calls Try.prog 87 #[.int .u8 c] w fun e w' => e = .returned (.bool (isD c)) ∧ w = w' := by
 by_cases h1 : 48 ≤ c
 all_goals by_cases h2 : c ≤ 57
 all_goals
  go_enter Try.func87, Try.ntmps87
  go_wp2
  go_ret
  exact ⟨ret_bool (by simp [isD, h1, h2]), rfl⟩
set_option maxHeartbeats 400000 in
theorem small_any (c : Int) (w : World) : Calls Try.prog 84 #[.int .u8 c] w fun e w' => e = .returned (.bool (isLow c)) ∧ w = w' := by
 by_cases h1 : 97 ≤ c
 all_goals by_cases h2 : c ≤ 122
 all_goals
  go_enter Try.func84, Try.ntmps84
  go_wp2
  go_ret
  exact ⟨ret_bool (by simp [isLow, h1, h2]), rfl⟩
set_option maxHeartbeats 400000 in
theorem great_any (c : Int) (w : World) : Calls Try.prog 88 #[.int .u8 c] w fun e w' => e = .returned (.bool (isUp c)) ∧ w = w' := by
 by_cases h1 : 65 ≤ c
 all_goals by_cases h2 : c ≤ 90
 all_goals
  go_enter Try.func88, Try.ntmps88
  go_wp2
  go_ret
  exact ⟨ret_bool (by simp [isUp, h1, h2]), rfl⟩
def isWordC (c : Int) : Bool := isLow c || isD c
def isVerbC (c : Int) : Bool := isLow c || isUp c || isD c
set_option maxHeartbeats 400000 in
theorem first1_any (c : Int) (w : World) : Calls Try.prog 86 #[.int .u8 c] w fun e w' => e = .returned (.bool (isWordC c)) ∧ w = w' := by
 generalize h1 : isLow c = b1
 have H1 := Aside0.mk h1
 clear h1
 cases b1
 all_goals
  go_enter Try.func86, Try.ntmps86
  go_wp2_with (first | (go_at_call 84; refine (small_any _ _).mono ?_; rintro e w' ⟨rfl, rfl⟩; rw [H1.out]) | (go_at_call 87; refine (figure_any _ _).mono ?_; rintro e w' ⟨rfl, rfl⟩))
  go_ret
  exact ⟨ret_bool (by simp [isWordC, H1.out]), rfl⟩
set_option maxHeartbeats 400000 in
theorem first2_any (c : Int) (w : World) : Calls Try.prog 89 #[.int .u8 c] w fun e w' => e = .returned (.bool (isVerbC c)) ∧ w = w' := by
 generalize h1 : isLow c = b1
 generalize h2 : isUp c = b2
 have H1 := Aside0.mk h1
 have H2 := Aside0.mk h2
 clear h1 h2
 cases b1
 all_goals cases b2
 all_goals
  go_enter Try.func89, Try.ntmps89
  go_wp2_with (first | (go_at_call 84; refine (small_any _ _).mono ?_; rintro e w' ⟨rfl, rfl⟩; rw [H1.out]) | (go_at_call 88; refine (great_any _ _).mono ?_; rintro e w' ⟨rfl, rfl⟩; rw [H2.out]) | (go_at_call 87; refine (figure_any _ _).mono ?_; rintro e w' ⟨rfl, rfl⟩))
  go_ret
  exact ⟨ret_bool (by simp [isVerbC, H1.out, H2.out]), rfl⟩
def runO (p : Int → Bool) (s : ByteArray) : Option Int := if s.size ≤ 4611686018427387904 then some (runN p s : Int) else none
theorem runO_spec {p : Int → Bool} {s : ByteArray} {r : Int} (h : runO p s = some r) : s.size ≤ 4611686018427387904 ∧ (runN p s : Int) = r := by
 unfold runO at h
 by_cases hs : s.size ≤ 4611686018427387904
 ·rw [if_pos hs] at h; exact ⟨hs, Option.some.inj h⟩
 ·rw [if_neg hs] at h; cases h
def run_figure.f (a0 : ByteArray) : Option Int := runO isD a0
theorem run_figure.calls (a0 : ByteArray) (r : Int) (w : World) (h : run_figure.f a0 = some r) :
  Calls Try.prog 85 #[.string a0, .func (.func 87) #[] #[]] w fun e w' => e = .returned (.int .i64 r) ∧ Drawn0 w w' := by
 obtain ⟨hs, rfl⟩ := runO_spec h
 refine (run_any 87 (enters_of Try.func87 (by kernel_rfl) rfl) isD figure_any a0 hs w).mono ?_
 rintro e w' ⟨rfl, rfl⟩
 exact ⟨rfl, Drawn0.refl _⟩
def run_word.f (a0 : ByteArray) : Option Int := runO isWordC a0
theorem run_word.calls (a0 : ByteArray) (r : Int) (w : World) (h : run_word.f a0 = some r) :
  Calls Try.prog 85 #[.string a0, .func (.func 86) #[] #[]] w fun e w' => e = .returned (.int .i64 r) ∧ Drawn0 w w' := by
 obtain ⟨hs, rfl⟩ := runO_spec h
 refine (run_any 86 (enters_of Try.func86 (by kernel_rfl) rfl) isWordC first1_any a0 hs w).mono ?_
 rintro e w' ⟨rfl, rfl⟩
 exact ⟨rfl, Drawn0.refl _⟩
def run_verb.f (a0 : ByteArray) : Option Int := runO isVerbC a0
theorem run_verb.calls (a0 : ByteArray) (r : Int) (w : World) (h : run_verb.f a0 = some r) :
  Calls Try.prog 85 #[.string a0, .func (.func 89) #[] #[]] w fun e w' => e = .returned (.int .i64 r) ∧ Drawn0 w w' := by
 obtain ⟨hs, rfl⟩ := runO_spec h
 refine (run_any 89 (enters_of Try.func89 (by kernel_rfl) rfl) isVerbC first2_any a0 hs w).mono ?_
 rintro e w' ⟨rfl, rfl⟩
 exact ⟨rfl, Drawn0.refl _⟩
end Go.Proofs.Ytdelccahgchadaa.P
end
section
namespace Go.Proofs.Ytdelccahgchadaa.P
open Go.RowKit Go.Proofs.Ytdelccahgchadaa Go.Proofs.YtdelccahgchadaaW.PrintWords Go.Proofs.YtdelccahgchadaaW.PrintLast Go.Proofs.YtdelccahgchadaaW.PrintMore
set_option linter.unusedVariables false
def strings_Contains.f (a0 a1 : ByteArray) : Option Bool := match a1.data.toList with | [c] => some (a0.data.toList.contains c) | _ => none
theorem strings_Contains.calls (a0 a1 : ByteArray) (r : Bool) (w : World) (h : strings_Contains.f a0 a1 = some r) :
  Calls Try.prog 83 #[.string a0, .string a1] w fun e w' => e = .returned (.bool r) ∧ Drawn0 w w' := by
 unfold strings_Contains.f at h
 cases hl : a1.data.toList with
 | nil => rw [hl] at h; cases h
 | cons c l =>
  cases l with
  | cons d l => rw [hl] at h; cases h
  | nil =>
   rw [hl] at h
   obtain rfl := Option.some.inj h
   obtain rfl : a1 = ⟨#[c]⟩ := by
    cases a1 with
    | mk d => congr 1; exact Array.toList_inj.1 hl
   refine (Try.strings_Contains_one a0 c w).mono ?_
   rintro e w' ⟨rfl, rfl⟩
   exact ⟨by rw [Lib.contains_iff_indexByte], Drawn0.refl _⟩
end Go.Proofs.Ytdelccahgchadaa.P
end
section
namespace Go.Proofs.Ytdelccahgchadaa.P
open Go.RowKit Go.Proofs.YtdelccahgchadaaW.PrintWords Go.Proofs.YtdelccahgchadaaW.PrintLast Go.Proofs.YtdelccahgchadaaW.PrintMore
attribute [local go_sem] max2_int min2_int max_two min_two max_three min_three max_four min_four   
set_option linter.unusedVariables false
set_option linter.unusedSimpArgs false
def api_Node_64.f  (a1 : Int) : Option ((List (S25))) := if a1 < 0 then (none) else (if (wrap64 a1) > 0 then (if 0 ≤ (wrap64 a1) then (if ([] : List (S25)).length + (wrap64 a1 : Int).toNat < 1759218604441 then ((some (([] : List (S25)) ++ List.replicate (wrap64 a1 : Int).toNat z25 : List (S25))).bind fun y101 => (if 0 ≤ (y101.length : Int) then (some (y101.take (0 : Int).toNat)) else (none))) else (none)) else (none)) else (some ([] : List (S25))))
set_option maxHeartbeats 8000000 in
set_option maxRecDepth 100000 in
theorem api_Node_64.calls  (a1 : Int) (r : List (S25)) (w : World) (h : api_Node_64.f a1 = some r) :
  Calls Try.prog 64 #[.slice none 0 0, .int .i64 a1] w fun e w' => ∃ v0_ : Value, e = .returned (v0_) ∧ Kd.S k25 25 w' w.heap.size (fun _ => True) v0_ r ∧ Below w.heap.size w w' := by
 have HB := am (Below.refl w.heap.size w)
 unfold api_Node_64.f at h
 have H := h
 clear h
 by_cases c3 : a1 < 0
 ·rw [if_pos c3] at H
  exact absurd H (by simp)
 ·rw [if_neg c3] at H
  have c3b0 : decide (a1 < 0) = false := decide_eq_false c3
  clear c3
  by_cases c4 : (wrap64 a1) > 0
  ·rw [if_pos c4] at H
   have c4b0 : decide (0 < (wrap64 a1)) = true := decide_eq_true c4
   clear c4
   obtain ⟨ji5, hji5⟩ : ∃ j_ : Int, (wrap64 a1) = j_ := ⟨_, rfl⟩
   replace H : (if 0 ≤ (ji5) then (if ([] : List (S25)).length + (ji5 : Int).toNat < 1759218604441 then ((some (([] : List (S25)) ++ List.replicate (ji5 : Int).toNat z25 : List (S25))).bind fun y101 => (if 0 ≤ (y101.length : Int) then (some (y101.take (0 : Int).toNat)) else (none))) else (none)) else (none)) = some r := by first | (rw [hji5] at H; exact H) | (simp only [hji5] at H ⊢; exact H)
   (try rw [hji5] at c4b0)
   have hji5w : (IntKind.i64.wrap a1) = ji5 := (i64_w _).trans hji5
   by_cases c6 : 0 ≤ (ji5)
   ·rw [if_pos c6] at H
    have c6b0 := eq_true c6
    have c6b1 : decide (0 ≤ (ji5)) = true := decide_eq_true c6
    clear c6
    by_cases c7 : ([] : List (S25)).length + (ji5 : Int).toNat < 1759218604441
    ·rw [if_pos c7] at H
     have LMc7 := am c7
     clear c7
     obtain ⟨y101, hy101⟩ : ∃ y_ : List (S25), y_ = (([] : List (S25)) ++ List.replicate (ji5 : Int).toNat z25) := ⟨_, rfl⟩
     replace H : (if 0 ≤ (y101.length : Int) then (some (y101.take (0 : Int).toNat)) else (none)) = some r := by first | (rw [hy101]; with_reducible exact H) | (have H2_ := (Option.bind_some _ _).symm.trans H; rw [hy101]; with_reducible exact H2_) | (have H2_ := (Option.bind_some _ _).symm.trans H; with_reducible exact H2_) | with_reducible exact H | (rw [hy101]; exact H) | exact H
     have Ny101 := am hy101
     clear hy101
     by_cases c8 : 0 ≤ (y101.length : Int)
     ·rw [if_pos c8] at H
      have c8b0 := eq_true c8
      have c8b1 : decide (0 ≤ (y101.length : Int)) = true := decide_eq_true c8
      clear c8
      obtain ⟨y104, hy104⟩ : ∃ y_ : List (S25), y_ = (y101.take (0 : Int).toNat) := ⟨_, rfl⟩
      replace H : (some y104) = some r := by first | (rw [hy104]; with_reducible exact H) | (have H2_ := (Option.bind_some _ _).symm.trans H; rw [hy104]; with_reducible exact H2_) | (have H2_ := (Option.bind_some _ _).symm.trans H; with_reducible exact H2_) | with_reducible exact H | (rw [hy104]; exact H) | exact H
      have Ny104 := am hy104
      clear hy104
      obtain rfl := Option.some.inj H
      go_enter Try.func64, Try.ntmps64
      go_wp2_with (at_builtin; refine Kd.S_append_zeros k25 (w0 := w) w.heap.size rfl (.tmp 20) (.tmp 21) 22 3 25 (.agg #[(.int .i64 0), (.string ⟨#[]⟩), (.string ⟨#[]⟩), (.string ⟨#[]⟩), (.slice none 0 0)]) 80 rfl Try.underlying22 Try.underlying3 info25 rfl (by decide) (by omega) (.slice none 0 0) ([] : List (S25)) z25 (ji5 : Int) (fun _ => True) rfl rfl (k25_mkM _ _ _ z25 (Kd.R_nil _ _ _ _ _)) ?aF ?aO (of_decide_eq_true yY) ?aB ?aS ?aL ?_; (case aB => exact (kL HB)); (case aF => exact (fun _ _ => trivial)); (case aO => exact ((Kd.S_nil _ _ _ _ _))); (case aS => exact (below_size (kL HB))); (case aL => have := LMc7.out; omega); intro v102 w9 ho hb hg hat; rw [← Ny101.out] at ho; have n0_ := am hb; have n1_ := am (ho); clear HB; have HB := n0_; have HO103 := n1_; clear n0_ n1_; clear ho hb hg hat; obtain ⟨Ao10, co10, eo10⟩ := Kd.S_slice HO103.out; subst eo10; have q11 : (0 : Int) ≤ ((y101.length : Int) : Int) := of_decide_eq_true yY; obtain ⟨i011, hi011, _, hsz11, _⟩ := info_parts info25; have hcut11 := cut_to (P := Try.prog) 22 25 .i64 Try.underlying22 hi011 Ao10 y101.length co10 0 (by omega) q11 (Kd.S_reads' HO103.out).2.1; have hr11 := Kd.S_take (m := (0 : Int).toNat) HO103.out (by omega); have hy11 : y104.length = (0 : Int).toNat := (by rw [Ny104.out, List.length_take]; omega); rw [← Ny104.out] at hr11; rw [← hy11] at hr11 hcut11; clear hy11 hi011 hsz11 HO103; have HO106 := am hr11; clear hr11; replace q11 := eq_true q11)
      go_ret
      exact ⟨_, by first | rfl | (simp [errW_none, errW_some] <;> rfl) | (simp only [← hji5]; first | rfl | (simp [errW_none, errW_some] <;> rfl)) | (simp [*, errW_none, errW_some] <;> rfl), sB HO106, (kL HB)⟩
     ·rw [if_neg c8] at H
      exact absurd H (by simp)
    ·rw [if_neg c7] at H
     exact absurd H (by simp)
   ·rw [if_neg c6] at H
    exact absurd H (by simp)
  ·rw [if_neg c4] at H
   have c4b0 : decide (0 < (wrap64 a1)) = false := decide_eq_false c4
   clear c4
   obtain rfl := Option.some.inj H
   go_enter Try.func64, Try.ntmps64
   go_wp2
   go_ret
   exact ⟨_, yE, yZ, (kL HB)⟩
mutual
def api_Node_48.l0 : Nat → List (List (S25)) → Int → List (List (S25)) → Int → Int → Option ((List (S25)))
 | 0, _, _, _, _, _ => none
 | k + 1, x0, x3, x9, x10, x11 => if x11 < x10 then (if 0 ≤ x11 then (if x11 < (x9.length : Int) then (if (wrap64 (x3 + ((rd_L4 x9 x11).length : Int))) < 0 then (none) else (api_Node_48.l0 k x0 (wrap64 (x3 + ((rd_L4 x9 x11).length : Int))) x9 x10 (wrap64 (x11 + 1)))) else (none)) else (none)) else ((api_Node_64.f x3).bind fun t108 => (api_Node_48.l1 k t108 x0 (x0.length : Int) 0))
def api_Node_48.l1 : Nat → List (S25) → List (List (S25)) → Int → Int → Option ((List (S25)))
 | 0, _, _, _, _ => none
 | k + 1, x6, x25, x26, x27 => if x27 < x26 then (if 0 ≤ x27 then (if x27 < (x25.length : Int) then (if x6.length + (rd_L4 x25 x27).length < 1759218604441 then (api_Node_48.l1 k (x6 ++ (rd_L4 x25 x27)) x25 x26 (wrap64 (x27 + 1))) else (none)) else (none)) else (none)) else (some x6)
end
def api_Node_48.f (k : Nat) (l0 : List (List (S25))) : Option ((List (S25))) := api_Node_48.l0 k l0 0 l0 (l0.length : Int) 0
theorem api_Node_48.mono_l : ∀ k, (∀ y0 y1 y2 y3 y4, LeO (api_Node_48.l0 k y0 y1 y2 y3 y4) (api_Node_48.l0 (k + 1) y0 y1 y2 y3 y4)) ∧ (∀ y0 y1 y2 y3, LeO (api_Node_48.l1 k y0 y1 y2 y3) (api_Node_48.l1 (k + 1) y0 y1 y2 y3))
 | 0 => ⟨fun _ _ _ _ _ r h => by simp [api_Node_48.l0] at h, fun _ _ _ _ r h => by simp [api_Node_48.l1] at h⟩
 | k + 1 => by
  obtain ⟨ih0, ih1⟩ := api_Node_48.mono_l k
  refine ⟨?_, ?_⟩
  ·intro y0 y1 y2 y3 y4
   unfold api_Node_48.l0
   with_reducible repeat' first
   | exact ih0 _ _ _ _ _
   | exact ih1 _ _ _ _
   | exact LeO.refl _
   | exact LeO.none _
   | refine LeO.ite ?_ ?_
   | refine LeO.bind ?_ (fun _ => ?_)
  ·intro y0 y1 y2 y3
   unfold api_Node_48.l1
   with_reducible repeat' first
   | exact ih0 _ _ _ _ _
   | exact ih1 _ _ _ _
   | exact LeO.refl _
   | exact LeO.none _
   | refine LeO.ite ?_ ?_
   | refine LeO.bind ?_ (fun _ => ?_)
theorem api_Node_48.mono : ∀ a0 k, LeO (api_Node_48.f k a0) (api_Node_48.f (k + 1) a0) := by
 intro a0 k
 obtain ⟨ih0, ih1⟩ := api_Node_48.mono_l k
 unfold api_Node_48.f
 with_reducible repeat' first
   | exact ih0 _ _ _ _ _
   | exact ih1 _ _ _ _
   | exact LeO.refl _
   | exact LeO.none _
   | refine LeO.ite ?_ ?_
   | refine LeO.bind ?_ (fun _ => ?_)
set_option maxHeartbeats 8000000 in
set_option maxRecDepth 100000 in
theorem api_Node_48.calls (k : Nat) (P0_ : Nat → Prop) (A0 : Option Addr) (c0 : Nat) (l0 : List (List (S25))) (r : List (S25)) (w : World) (hs0 : Kd.V (Kd.slice 25 k25) 22 w w.heap.size (fun k_ => P0_ k_) (.slice A0 l0.length c0) l0) (h : api_Node_48.f k l0 = some r) :
  Calls Try.prog 48 #[.slice A0 l0.length c0] w fun e w' => ∃ v0_ : Value, e = .returned (v0_) ∧ Kd.N k25 25 w' w.heap.size (fun k_ => (P0_ k_ ∨ w.heap.size ≤ k_)) v0_ r ∧ Below w.heap.size w w' := by
 have HO0 := am (show Kd.V (Kd.slice 25 k25) 22 w w.heap.size (fun k_ => (P0_ k_ ∨ w.heap.size ≤ k_)) (.slice A0 l0.length c0) l0 from Kd.V_mono hs0 (fun k_ hk => .inl hk))
 have HB := am (Below.refl w.heap.size w)
 unfold api_Node_48.f at h
 have H := h
 clear h
 have H' := am H
 clear H
 go_enter Try.func48, Try.ntmps48
 go_wp2
 go_loopg [3, 11] k (fun kq v3 v11 w' => ∃ (x3_1 : Int) (x11_1 : Int), v3 = .int .i64 x3_1 ∧ v11 = .int .i64 x11_1 ∧ Aside0 (api_Node_48.l0 kq l0 x3_1 l0 (l0.length : Int) x11_1 = some r) ∧ Aside0 (kq ≤ k) ∧ Aside0 (Kd.V (Kd.slice 25 k25) 22 w' w.heap.size (fun k_ => (P0_ k_ ∨ w.heap.size ≤ k_)) (.slice A0 l0.length c0) l0) ∧ Aside0 (Kd.V (Kd.slice 25 k25) 22 w' w.heap.size (fun k_ => (P0_ k_ ∨ w.heap.size ≤ k_)) (.slice A0 l0.length c0) l0) ∧ Aside0 (Below w.heap.size w w'))
 case atStart => exact ⟨(0), (0), yS, yS, H', ⟨Nat.le_refl _⟩, ⟨vB HO0⟩, ⟨vB HO0⟩, ⟨(kL HB)⟩⟩
 case round =>
  clear H'
  obtain ⟨x3_1, x11_1, rfl, rfl, HA, HK1, HO_0, HO_9, HB⟩ := hrel
  cases gk with
  | zero => exact absurd HA.out (by simp [api_Node_48.l0])
  | succ k1 =>
   have H := HA.out
   clear HA
   simp only [api_Node_48.l0] at H
   by_cases c2 : x11_1 < (l0.length : Int)
   ·rw [if_pos c2] at H
    have c2b0 : decide (x11_1 < (l0.length : Int)) = true := decide_eq_true c2
    clear c2
    by_cases c3 : 0 ≤ x11_1
    ·rw [if_pos c3] at H
     have c3b0 : decide (0 ≤ x11_1) = true := decide_eq_true c3
     clear c3
     by_cases c4 : x11_1 < (l0.length : Int)
     ·rw [if_pos c4] at H
      have c4b0 : decide (x11_1 < (l0.length : Int)) = true := decide_eq_true c4
      clear c4
      by_cases c5 : (wrap64 (x3_1 + ((rd_L4 l0 x11_1).length : Int))) < 0
      ·rw [if_pos c5] at H
       exact absurd H (by simp)
      ·rw [if_neg c5] at H
       have c5b0 : decide ((wrap64 (x3_1 + ((rd_L4 l0 x11_1).length : Int))) < 0) = false := decide_eq_false c5
       clear c5
       have H' := am H
       clear H
       have p107 : 0 ≤ (x11_1 : Int) := of_decide_eq_true yY
       have q107 : x11_1 < (l0.length : Int) := of_decide_eq_true yY
       obtain ⟨ad107, A107_0, c107_0, e107, hx107_0, hl107_0, hi107_0⟩ := at_L4 (Kd.V_reads' HO_9.out).2.2 x11_1 p107 q107
       cases e107
       obtain ⟨ce107, hce107, hMe107, hcc107⟩ := Kd.V_get HO_9.out [] x11_1 p107 (by first | exact q107 | exact of_decide_eq_true yY | (have e_ := (Kd.V_reads' HO_9.out).1; omega))
       obtain ⟨ua107_0, uc107_0, rfl, ul107_0, ge107_0⟩ := Kd.FK_slice_open hMe107
       have hv107_0 := hcc107 0 _ rfl
       rw [Nat.add_zero, show ((Kd.slice 25 k25)).sz = 1 from rfl, Nat.mul_one] at hv107_0
       replace hv107_0 := Option.some.inj (hv107_0.symm.trans hx107_0)
       injection hv107_0 with hva_ hvn_ hvc_
       rw [hva_] at ge107_0
       rw [hvc_] at ul107_0
       have HL107_0 := am (show Kd.V k25 25 _ w.heap.size _ _ (rd_L4 l0 x11_1) from Kd.V_mk ul107_0 ge107_0)
       clear hva_ hvn_ hvc_ ge107_0 ul107_0
       clear hcc107 hce107
       have HR107_0 := am hi107_0
       have HC107_0 := am hl107_0
       clear hi107_0 hl107_0
       replace p107 := eq_true p107
       replace q107 := eq_true q107
       go_wp2
       go_roundg k1
       case measure => have := HK1.out; omega
       case rel => exact ⟨(wrap64 (x3_1 + ((rd_L4 l0 x11_1).length : Int))), (wrap64 (x11_1 + 1)), yS, yS, H', ⟨by have := HK1.out; omega⟩, ⟨vB HO_0⟩, ⟨vB HO_9⟩, ⟨(kL HB)⟩⟩
     ·rw [if_neg c4] at H
      exact absurd H (by simp)
    ·rw [if_neg c3] at H
     exact absurd H (by simp)
   ·rw [if_neg c2] at H
    have c2b0 : decide (x11_1 < (l0.length : Int)) = false := decide_eq_false c2
    clear c2
    obtain ⟨t108, A6, H⟩ := bO H
    try dsimp only at H
    have H' := am H
    clear H
    go_wp2_with ((with_reducible refine gC 64 rfl ?_); refine gL (some 24) Try.func64 #[.slice none 0 0, .int .i64 x3_1] ?_; (with_reducible refine (api_Node_64.calls _ _ _ A6.out).mono ?_); rintro e w7 ⟨v109, rfl, ho0, hb⟩; refine ⟨_, rfl, ?_⟩; replace HO_0 := am (Kd.V_elder' (vB HO_0) (Kd.N_base (Kd.S_N ho0)) hb); replace HO_9 := am (Kd.V_elder' (vB HO_9) (Kd.N_base (Kd.S_N ho0)) hb); have HO110 := am (Kd.N_lower (Kd.N_mono (ok' := fun k_ => (P0_ k_ ∨ w.heap.size ≤ k_)) (Kd.S_N (Kd.S_bound ho0)) (fun k_ hk_ => (.inr (Nat.le_trans (below_size (kL HB)) hk_.2.1)))) (below_size (kL HB))); replace HB := am (below_step (kL HB) hb); (try clear ho0 hb))
    go_loopg [6, 27] k1 (fun kq v6 v27 w' => ∃ (x6_2 : List (S25)) (x27_2 : Int), v27 = .int .i64 x27_2 ∧ Aside0 (api_Node_48.l1 kq x6_2 l0 (l0.length : Int) x27_2 = some r) ∧ Aside0 (kq ≤ k1) ∧ Aside0 (Kd.N k25 25 w' w.heap.size (fun k_ => (P0_ k_ ∨ w.heap.size ≤ k_)) v6 x6_2) ∧ Aside0 (Kd.V (Kd.slice 25 k25) 22 w' w.heap.size (fun k_ => (P0_ k_ ∨ w.heap.size ≤ k_) ∧ some k_ ≠ (v6 : Value).ownBlock) (.slice A0 l0.length c0) l0) ∧ Aside0 (Below w.heap.size w w'))
    case atStart => exact ⟨(t108), (0), yS, H', ⟨Nat.le_refl _⟩, ⟨nB HO110⟩, ⟨vB HO_0⟩, ⟨(kL HB)⟩⟩
    case round =>
     clear H'
     try clear c1
     try clear p1
     try clear q1
     try clear hx1
     try clear c2
     try clear c2b0
     try clear p2
     try clear c3
     try clear c3b0
     try clear c4
     try clear c4b0
     try clear c5
     try clear c5b0
     try clear c6
     try clear p6
     try clear hx107_0
     try clear p107
     try clear q107
     obtain ⟨x6_2, x27_2, rfl, HA, HK2, HO_6, HO_25, HB⟩ := hrel
     cases gk with
     | zero => exact absurd HA.out (by simp [api_Node_48.l1])
     | succ k2 =>
      have H := HA.out
      clear HA
      simp only [api_Node_48.l1] at H
      by_cases c8 : x27_2 < (l0.length : Int)
      ·rw [if_pos c8] at H
       have c8b0 : decide (x27_2 < (l0.length : Int)) = true := decide_eq_true c8
       clear c8
       by_cases c9 : 0 ≤ x27_2
       ·rw [if_pos c9] at H
        have c9b0 : decide (0 ≤ x27_2) = true := decide_eq_true c9
        clear c9
        by_cases c10 : x27_2 < (l0.length : Int)
        ·rw [if_pos c10] at H
         have c10b0 : decide (x27_2 < (l0.length : Int)) = true := decide_eq_true c10
         clear c10
         by_cases c11 : x6_2.length + (rd_L4 l0 x27_2).length < 1759218604441
         ·rw [if_pos c11] at H
          have LMc11 := am c11
          clear c11
          obtain ⟨y112, hy112⟩ : ∃ y_ : List (S25), y_ = (x6_2 ++ (rd_L4 l0 x27_2)) := ⟨_, rfl⟩
          replace H : (api_Node_48.l1 k2 y112 l0 (l0.length : Int) (wrap64 (x27_2 + 1))) = some r := by first | (rw [hy112]; with_reducible exact H) | (have H2_ := (Option.bind_some _ _).symm.trans H; rw [hy112]; with_reducible exact H2_) | (have H2_ := (Option.bind_some _ _).symm.trans H; with_reducible exact H2_) | with_reducible exact H | (rw [hy112]; exact H) | exact H
          have Ny112 := am hy112
          clear hy112
          have H' := am H
          clear H
          have p111 : 0 ≤ (x27_2 : Int) := of_decide_eq_true yY
          have q111 : x27_2 < (l0.length : Int) := of_decide_eq_true yY
          obtain ⟨ad111, A111_0, c111_0, e111, hx111_0, hl111_0, hi111_0⟩ := at_L4 (Kd.V_reads' HO_25.out).2.2 x27_2 p111 q111
          cases e111
          obtain ⟨ce111, hce111, hMe111, hcc111⟩ := Kd.V_get HO_25.out [] x27_2 p111 (by first | exact q111 | exact of_decide_eq_true yY | (have e_ := (Kd.V_reads' HO_25.out).1; omega))
          obtain ⟨ua111_0, uc111_0, rfl, ul111_0, ge111_0⟩ := Kd.FK_slice_open hMe111
          have hv111_0 := hcc111 0 _ rfl
          rw [Nat.add_zero, show ((Kd.slice 25 k25)).sz = 1 from rfl, Nat.mul_one] at hv111_0
          replace hv111_0 := Option.some.inj (hv111_0.symm.trans hx111_0)
          injection hv111_0 with hva_ hvn_ hvc_
          rw [hva_] at ge111_0
          rw [hvc_] at ul111_0
          have HL111_0 := am (show Kd.V k25 25 _ w.heap.size _ _ (rd_L4 l0 x27_2) from Kd.V_mk ul111_0 ge111_0)
          clear hva_ hvn_ hvc_ ge111_0 ul111_0
          clear hcc111 hce111
          have HR111_0 := am hi111_0
          have HC111_0 := am hl111_0
          clear hi111_0 hl111_0
          replace p111 := eq_true p111
          replace q111 := eq_true q111
          go_wp2_with ((with_reducible refine gate_builtin (b := .append) (xs := #[.tmp 31, .tmp 32]) rfl ?_); at_builtin; refine Kd.N_append_rows k25 (w0 := w) w.heap.size rfl (.tmp 31) (.tmp 32) 22 25 (.agg #[(.int .i64 0), (.string ⟨#[]⟩), (.string ⟨#[]⟩), (.string ⟨#[]⟩), (.slice none 0 0)]) 80 rfl Try.underlying22 info25 rfl (by decide) (by omega) u6 x6_2 (rd_L4 l0 x27_2) _ _ _ (fun k_ => (P0_ k_ ∨ w.heap.size ≤ k_)) (fun k_ => ((fun k_ => (P0_ k_ ∨ w.heap.size ≤ k_))) k_ ∧ some k_ ≠ (u6 : Value).ownBlock) rfl rfl ?aO ?aR (fun _ hk => hk) ?aF ?aB ?aS ?aL ?_; (case aR => exact (by skip; exact Kd.V_F (Kd.V_mono (ok' := (fun k_ => ((fun k_ => (P0_ k_ ∨ w.heap.size ≤ k_))) k_ ∧ some k_ ≠ (u6 : Value).ownBlock)) (HL111_0.out) (fun k_ hk => ⟨hk.1, hk.2⟩)))); (case aB => exact (kL HB)); (case aF => exact (fun k_ hk => (.inr (Nat.le_trans (below_size (kL HB)) hk)))); (case aO => exact (nB HO_6)); (case aS => exact (below_size (kL HB))); (case aL => have := LMc11.out; omega); intro v113 w12 ho hb hg hat; rw [← Ny112.out] at ho; have n0_ := am (Kd.V_afterv (ok := (fun k_ => (P0_ k_ ∨ w.heap.size ≤ k_))) (vB HO_25) hg hat); have n1_ := am (Kd.V_afterv (ok := (fun k_ => (P0_ k_ ∨ w.heap.size ≤ k_))) (vB HL111_0) hg hat); have n2_ := am hb; have n3_ := am (ho); clear HO_25; clear HL111_0; clear HB; clear HO_6; have HO_25 := n0_; have HL111_0 := n1_; have HB := n2_; have HO114 := n3_; clear n0_ n1_ n2_ n3_; clear ho hb hg hat)
          go_roundg k2
          case measure => have := HK1.out; have := HK2.out; omega
          case rel => exact ⟨(y112), (wrap64 (x27_2 + 1)), yS, H', ⟨by have := HK1.out; have := HK2.out; omega⟩, ⟨nB HO114⟩, ⟨vB HO_25⟩, ⟨(kL HB)⟩⟩
         ·rw [if_neg c11] at H
          exact absurd H (by simp)
        ·rw [if_neg c10] at H
         exact absurd H (by simp)
       ·rw [if_neg c9] at H
        exact absurd H (by simp)
      ·rw [if_neg c8] at H
       have c8b0 : decide (x27_2 < (l0.length : Int)) = false := decide_eq_false c8
       clear c8
       obtain rfl := Option.some.inj H
       go_wp2
       go_ret
       exact ⟨_, yE, nB HO_6, (kL HB)⟩
end Go.Proofs.Ytdelccahgchadaa.P
end
section
namespace Go.Proofs.Ytdelccahgchadaa.P
open Go.RowKit Go.Proofs.Ytdelccahgchadaa Go.Proofs.YtdelccahgchadaaW.PrintWords Go.Proofs.YtdelccahgchadaaW.PrintLast Go.Proofs.YtdelccahgchadaaW.PrintMore
set_option linter.unusedVariables false
set_option linter.unusedSimpArgs false
theorem tok_field_0 (a b c : Value) (w : World) : (Instr.field 71 (.agg #[a, b, c]) 0).run Try.prog w = .ok a w := by kernel_rfl
theorem tok_field_1 (a b c : Value) (w : World) : (Instr.field 71 (.agg #[a, b, c]) 1).run Try.prog w = .ok b w := by kernel_rfl
theorem tok_field_2 (a b c : Value) (w : World) : (Instr.field 71 (.agg #[a, b, c]) 2).run Try.prog w = .ok c w := by kernel_rfl
attribute [go_sem] tok_field_0 tok_field_1 tok_field_2
def parse_parser_look.f (s0_0 : List S71) (s0_1 s0_2 : Int) (s0_3 : Bool) (a1 : Int) : Option (Int × ByteArray × Int × Int × Int × Bool) :=
 if s0_3 = true then some (0, ⟨#[]⟩, s0_2, s0_1, s0_2, s0_3)
 else if wrap64 (s0_1 + a1) ≥ (s0_0.length : Int) then some (0, ⟨#[]⟩, s0_2, s0_1, s0_2, s0_3)
 else if 0 ≤ wrap64 (s0_1 + a1) then some ((rd_T71 s0_0 (wrap64 (s0_1 + a1))).f0, (rd_T71 s0_0 (wrap64 (s0_1 + a1))).f1, (rd_T71 s0_0 (wrap64 (s0_1 + a1))).f2, s0_1, s0_2, s0_3) else none
set_option maxRecDepth 100000 in
set_option maxHeartbeats 4000000 in
theorem look1 (g : Nat) (s0_0 : List S71) (s0_1 s0_2 : Int) (a1 : Int) (w0 w : World) (hI : IsS83 w0 w g s0_0 s0_1 s0_2 true) (hB : Below w0.heap.size w0 w) :
  Calls Try.prog 67 #[.pointer (some ⟨g, 0, none⟩), .int .i64 a1] w fun e w' => e = .returned (.agg #[.int .i64 0, .string ⟨#[]⟩, .int .i64 s0_2]) ∧ IsS83 w0 w' g s0_0 s0_1 s0_2 true ∧ Below w0.heap.size w0 w' ∧ KeepBut w w' g none := by
 have hlt := IsS83.lt hI
 have HI := Aside0.mk (IsS83.alloc hI (Obj.cells #[Value.int IntKind.i64 0, Value.string { data := #[] }, Value.int IntKind.i64 0] 71))
 have HK := Aside0.mk (keep_alloc (KeepBut.refl w g none) (Obj.cells #[Value.int IntKind.i64 0, Value.string { data := #[] }, Value.int IntKind.i64 0] 71))
 have HB := Aside0.mk (below_alloc hB (Obj.cells #[Value.int IntKind.i64 0, Value.string { data := #[] }, Value.int IntKind.i64 0] 71))
 have GE := Aside0.mk hB.size
 have hbk : (w.alloc (Obj.cells #[Value.int IntKind.i64 0, Value.string { data := #[] }, Value.int IntKind.i64 0] 71)).heap[w.heap.size]? = some (.cells #[.int .i64 0, .string ⟨#[]⟩, .int .i64 0] 71 (0, 0)) := by simpa using heap_alloc_new w _
 have BK := Aside0.mk hbk
 have NE := Aside0.mk (Nat.ne_of_lt hlt)
 clear hI hB hbk
 go_enter Try.func67, Try.ntmps67
 go_wp2_with fail
 obtain ⟨W, hW⟩ : ∃ W, W = w.alloc (Obj.cells #[Value.int IntKind.i64 0, Value.string { data := #[] }, Value.int IntKind.i64 0] 71) := ⟨_, rfl⟩
 rw [← hW] at HI HK HB BK ⊢
 obtain ⟨g4, hg4⟩ : ∃ g4, g4 = w.heap.size := ⟨_, rfl⟩
 rw [← hg4] at BK NE GE hlt ⊢
 have GW : Aside0 (w.heap.size ≤ g4) := ⟨Nat.le_of_eq hg4.symm⟩
 clear hW hg4 hlt
 obtain ⟨A0, c0, hb, hg, hr⟩ := HI.out
 have HR := Aside0.mk hr
 have x0 := cellS83_0 hb
 have x1 := cellS83_1 hb
 have x2 := cellS83_2 hb
 have x3 := cellS83_3 hb
 have z0 : W.cell? ⟨g4, 0, none⟩ = some (.int .i64 0) := (blk_cell BK.out 0).trans rfl
 have z1 : W.cell? ⟨g4, 1, none⟩ = some (.string ⟨#[]⟩) := (blk_cell BK.out 1).trans rfl
 have z2 : W.cell? ⟨g4, 2, none⟩ = some (.int .i64 0) := (blk_cell BK.out 2).trans rfl
 have f0 := blk_frozen BK.out 0
 have f1 := blk_frozen BK.out 1
 have f2 := blk_frozen BK.out 2
 clear hb hg hr
 go_quiet (fail)
 go_wp2
 obtain ⟨W3, hW3⟩ : ∃ W3, W3 = ((((W.drewN nq).setCell ⟨g4, 0, none⟩ (.int .i64 0)).setCell ⟨g4, 1, none⟩ (.string ⟨#[]⟩)).setCell ⟨g4, 2, none⟩ (.int .i64 s0_2)) := ⟨_, rfl⟩
 have b3 : W3.heap[g4]? = some (.cells #[.int .i64 0, .string ⟨#[]⟩, .int .i64 s0_2] 71 (0, 0)) := by
  rw [hW3]
  refine blk_put (cs := #[.int .i64 0, .string ⟨#[]⟩, .int .i64 0]) ?_ 2 _ rfl
  refine blk_put (cs := #[.int .i64 0, .string ⟨#[]⟩, .int .i64 0]) ?_ 1 _ rfl
  refine blk_put (cs := #[.int .i64 0, .string ⟨#[]⟩, .int .i64 0]) ?_ 0 _ rfl
  refine blk_drewN ?_ _
  exact BK.out
 have i3 : IsS83 w0 W3 g s0_0 s0_1 s0_2 true := by rw [hW3]; exact IsS83.far (IsS83.far (IsS83.far (IsS83.drewN HI.out _) NE.out _) NE.out _) NE.out _
 have l3 : Below w0.heap.size w0 W3 := by rw [hW3]; exact below_set (below_set (below_set (pw_below_drewN HB.out _) GE.out) GE.out) GE.out
 have k3 : KeepBut w W3 g none := by rw [hW3]; exact keep_far (keep_far (keep_far (keep_drewN HK.out _) GW.out _) GW.out _) GW.out _
 rw [← hW3]
 clear hW3
 have y0 : W3.cell? ⟨g4, 0, none⟩ = some (.int .i64 0) := (blk_cell b3 0).trans rfl
 have y1 : W3.cell? ⟨g4, 1, none⟩ = some (.string ⟨#[]⟩) := (blk_cell b3 1).trans rfl
 have y2 : W3.cell? ⟨g4, 2, none⟩ = some (.int .i64 s0_2) := (blk_cell b3 2).trans rfl
 refine bodyPost_ret (v := .agg #[.int .i64 0, .string ⟨#[]⟩, .int .i64 s0_2]) (by simp [results, Try.results67, go_sem, y0, y1, y2]) rfl ⟨rfl, i3, l3, k3⟩
set_option maxRecDepth 100000 in
set_option maxHeartbeats 4000000 in
theorem look2 (g : Nat) (s0_0 : List S71) (s0_1 s0_2 : Int) (a1 : Int) (w0 w : World) (hI : IsS83 w0 w g s0_0 s0_1 s0_2 false) (hB : Below w0.heap.size w0 w) (hge : (s0_0.length : Int) ≤ wrap64 (s0_1 + a1)) :
  Calls Try.prog 67 #[.pointer (some ⟨g, 0, none⟩), .int .i64 a1] w fun e w' => e = .returned (.agg #[.int .i64 0, .string ⟨#[]⟩, .int .i64 s0_2]) ∧ IsS83 w0 w' g s0_0 s0_1 s0_2 false ∧ Below w0.heap.size w0 w' ∧ KeepBut w w' g none := by
 have hlt := IsS83.lt hI
 have HI := Aside0.mk (IsS83.alloc hI (Obj.cells #[Value.int IntKind.i64 0, Value.string { data := #[] }, Value.int IntKind.i64 0] 71))
 have HK := Aside0.mk (keep_alloc (KeepBut.refl w g none) (Obj.cells #[Value.int IntKind.i64 0, Value.string { data := #[] }, Value.int IntKind.i64 0] 71))
 have HB := Aside0.mk (below_alloc hB (Obj.cells #[Value.int IntKind.i64 0, Value.string { data := #[] }, Value.int IntKind.i64 0] 71))
 have GE := Aside0.mk hB.size
 have hbk : (w.alloc (Obj.cells #[Value.int IntKind.i64 0, Value.string { data := #[] }, Value.int IntKind.i64 0] 71)).heap[w.heap.size]? = some (.cells #[.int .i64 0, .string ⟨#[]⟩, .int .i64 0] 71 (0, 0)) := by simpa using heap_alloc_new w _
 have BK := Aside0.mk hbk
 have NE := Aside0.mk (Nat.ne_of_lt hlt)
 clear hI hB hbk
 go_enter Try.func67, Try.ntmps67
 go_wp2_with fail
 obtain ⟨W, hW⟩ : ∃ W, W = w.alloc (Obj.cells #[Value.int IntKind.i64 0, Value.string { data := #[] }, Value.int IntKind.i64 0] 71) := ⟨_, rfl⟩
 rw [← hW] at HI HK HB BK ⊢
 obtain ⟨g4, hg4⟩ : ∃ g4, g4 = w.heap.size := ⟨_, rfl⟩
 rw [← hg4] at BK NE GE hlt ⊢
 have GW : Aside0 (w.heap.size ≤ g4) := ⟨Nat.le_of_eq hg4.symm⟩
 clear hW hg4 hlt
 obtain ⟨A0, c0, hb, hg, hr⟩ := HI.out
 have HR := Aside0.mk hr
 have x0 := cellS83_0 hb
 have x1 := cellS83_1 hb
 have x2 := cellS83_2 hb
 have x3 := cellS83_3 hb
 have z0 : W.cell? ⟨g4, 0, none⟩ = some (.int .i64 0) := (blk_cell BK.out 0).trans rfl
 have z1 : W.cell? ⟨g4, 1, none⟩ = some (.string ⟨#[]⟩) := (blk_cell BK.out 1).trans rfl
 have z2 : W.cell? ⟨g4, 2, none⟩ = some (.int .i64 0) := (blk_cell BK.out 2).trans rfl
 have f0 := blk_frozen BK.out 0
 have f1 := blk_frozen BK.out 1
 have f2 := blk_frozen BK.out 2
 clear hb hg hr
 have hd : decide ((s0_0.length : Int) ≤ wrap64 (s0_1 + a1)) = true := decide_eq_true hge
 have hd2 : decide ((s0_0.length : Int) ≤ IntKind.i64.wrap (s0_1 + a1)) = true := by rw [i64_w]; exact hd
 clear hge
 go_quiet (fail)
 go_wp2
 obtain ⟨W3, hW3⟩ : ∃ W3, W3 = ((((W.drewN nq).setCell ⟨g4, 0, none⟩ (.int .i64 0)).setCell ⟨g4, 1, none⟩ (.string ⟨#[]⟩)).setCell ⟨g4, 2, none⟩ (.int .i64 s0_2)) := ⟨_, rfl⟩
 have b3 : W3.heap[g4]? = some (.cells #[.int .i64 0, .string ⟨#[]⟩, .int .i64 s0_2] 71 (0, 0)) := by
  rw [hW3]
  refine blk_put (cs := #[.int .i64 0, .string ⟨#[]⟩, .int .i64 0]) ?_ 2 _ rfl
  refine blk_put (cs := #[.int .i64 0, .string ⟨#[]⟩, .int .i64 0]) ?_ 1 _ rfl
  refine blk_put (cs := #[.int .i64 0, .string ⟨#[]⟩, .int .i64 0]) ?_ 0 _ rfl
  refine blk_drewN ?_ _
  exact BK.out
 have i3 : IsS83 w0 W3 g s0_0 s0_1 s0_2 false := by rw [hW3]; exact IsS83.far (IsS83.far (IsS83.far (IsS83.drewN HI.out _) NE.out _) NE.out _) NE.out _
 have l3 : Below w0.heap.size w0 W3 := by rw [hW3]; exact below_set (below_set (below_set (pw_below_drewN HB.out _) GE.out) GE.out) GE.out
 have k3 : KeepBut w W3 g none := by rw [hW3]; exact keep_far (keep_far (keep_far (keep_drewN HK.out _) GW.out _) GW.out _) GW.out _
 rw [← hW3]
 clear hW3
 have y0 : W3.cell? ⟨g4, 0, none⟩ = some (.int .i64 0) := (blk_cell b3 0).trans rfl
 have y1 : W3.cell? ⟨g4, 1, none⟩ = some (.string ⟨#[]⟩) := (blk_cell b3 1).trans rfl
 have y2 : W3.cell? ⟨g4, 2, none⟩ = some (.int .i64 s0_2) := (blk_cell b3 2).trans rfl
 refine bodyPost_ret (v := .agg #[.int .i64 0, .string ⟨#[]⟩, .int .i64 s0_2]) (by simp [results, Try.results67, go_sem, y0, y1, y2]) rfl ⟨rfl, i3, l3, k3⟩
set_option maxRecDepth 100000 in
set_option maxHeartbeats 4000000 in
theorem look3 (g : Nat) (s0_0 : List S71) (s0_1 s0_2 : Int) (a1 : Int) (w0 w : World) (hI : IsS83 w0 w g s0_0 s0_1 s0_2 false) (hB : Below w0.heap.size w0 w) (h0 : 0 ≤ wrap64 (s0_1 + a1)) (hlt0 : wrap64 (s0_1 + a1) < (s0_0.length : Int)) :
  Calls Try.prog 67 #[.pointer (some ⟨g, 0, none⟩), .int .i64 a1] w fun e w' => e = .returned (.agg #[.int .i64 (rd_T71 s0_0 (wrap64 (s0_1 + a1))).f0, .string (rd_T71 s0_0 (wrap64 (s0_1 + a1))).f1, .int .i64 (rd_T71 s0_0 (wrap64 (s0_1 + a1))).f2]) ∧ IsS83 w0 w' g s0_0 s0_1 s0_2 false ∧ Below w0.heap.size w0 w' ∧ KeepBut w w' g none := by
 have hlt := IsS83.lt hI
 have HI := Aside0.mk (IsS83.alloc hI (Obj.cells #[Value.int IntKind.i64 0, Value.string { data := #[] }, Value.int IntKind.i64 0] 71))
 have HK := Aside0.mk (keep_alloc (KeepBut.refl w g none) (Obj.cells #[Value.int IntKind.i64 0, Value.string { data := #[] }, Value.int IntKind.i64 0] 71))
 have HB := Aside0.mk (below_alloc hB (Obj.cells #[Value.int IntKind.i64 0, Value.string { data := #[] }, Value.int IntKind.i64 0] 71))
 have GE := Aside0.mk hB.size
 have hbk : (w.alloc (Obj.cells #[Value.int IntKind.i64 0, Value.string { data := #[] }, Value.int IntKind.i64 0] 71)).heap[w.heap.size]? = some (.cells #[.int .i64 0, .string ⟨#[]⟩, .int .i64 0] 71 (0, 0)) := by simpa using heap_alloc_new w _
 have BK := Aside0.mk hbk
 have NE := Aside0.mk (Nat.ne_of_lt hlt)
 clear hI hB hbk
 go_enter Try.func67, Try.ntmps67
 go_wp2_with fail
 obtain ⟨W, hW⟩ : ∃ W, W = w.alloc (Obj.cells #[Value.int IntKind.i64 0, Value.string { data := #[] }, Value.int IntKind.i64 0] 71) := ⟨_, rfl⟩
 rw [← hW] at HI HK HB BK ⊢
 obtain ⟨g4, hg4⟩ : ∃ g4, g4 = w.heap.size := ⟨_, rfl⟩
 rw [← hg4] at BK NE GE hlt ⊢
 have GW : Aside0 (w.heap.size ≤ g4) := ⟨Nat.le_of_eq hg4.symm⟩
 clear hW hg4 hlt
 obtain ⟨A0, c0, hb, hg, hr⟩ := HI.out
 have HR := Aside0.mk hr
 have x0 := cellS83_0 hb
 have x1 := cellS83_1 hb
 have x2 := cellS83_2 hb
 have x3 := cellS83_3 hb
 have z0 : W.cell? ⟨g4, 0, none⟩ = some (.int .i64 0) := (blk_cell BK.out 0).trans rfl
 have z1 : W.cell? ⟨g4, 1, none⟩ = some (.string ⟨#[]⟩) := (blk_cell BK.out 1).trans rfl
 have z2 : W.cell? ⟨g4, 2, none⟩ = some (.int .i64 0) := (blk_cell BK.out 2).trans rfl
 have f0 := blk_frozen BK.out 0
 have f1 := blk_frozen BK.out 1
 have f2 := blk_frozen BK.out 2
 clear hb hg hr
 have hd : decide ((s0_0.length : Int) ≤ wrap64 (s0_1 + a1)) = false := decide_eq_false (by omega)
 have hd2 : decide ((s0_0.length : Int) ≤ IntKind.i64.wrap (s0_1 + a1)) = false := by rw [i64_w]; exact hd
 have q0 := eq_true h0
 have q1 := eq_true hlt0
 obtain ⟨ad, ea, e0, e1, e2⟩ := at_T71 (Kd.C_below HR.out HB.out) (wrap64 (s0_1 + a1)) h0 hlt0
 cases ea
 go_quiet (fail)
 go_wp2_with fail
 go_region
 go_wp2
 obtain ⟨v0, hv0⟩ : ∃ v0, v0 = (rd_T71 s0_0 (wrap64 (s0_1 + a1))).f0 := ⟨_, rfl⟩
 obtain ⟨v1, hv1⟩ : ∃ v1, v1 = (rd_T71 s0_0 (wrap64 (s0_1 + a1))).f1 := ⟨_, rfl⟩
 obtain ⟨v2, hv2⟩ : ∃ v2, v2 = (rd_T71 s0_0 (wrap64 (s0_1 + a1))).f2 := ⟨_, rfl⟩
 rw [← hv0, ← hv1, ← hv2]
 obtain ⟨W3, hW3⟩ : ∃ W3, W3 = ((((W.drewN (nq + 1)).setCell ⟨g4, 0, none⟩ (.int .i64 v0)).setCell ⟨g4, 1, none⟩ (.string v1)).setCell ⟨g4, 2, none⟩ (.int .i64 v2)) := ⟨_, rfl⟩
 have b3 : W3.heap[g4]? = some (.cells #[.int .i64 v0, .string v1, .int .i64 v2] 71 (0, 0)) := by
  rw [hW3]
  refine blk_put (cs := #[.int .i64 v0, .string v1, .int .i64 0]) ?_ 2 _ rfl
  refine blk_put (cs := #[.int .i64 v0, .string ⟨#[]⟩, .int .i64 0]) ?_ 1 _ rfl
  refine blk_put (cs := #[.int .i64 0, .string ⟨#[]⟩, .int .i64 0]) ?_ 0 _ rfl
  refine blk_drewN ?_ _
  exact BK.out
 have i3 : IsS83 w0 W3 g s0_0 s0_1 s0_2 false := by rw [hW3]; exact IsS83.far (IsS83.far (IsS83.far (IsS83.drewN HI.out _) NE.out _) NE.out _) NE.out _
 have l3 : Below w0.heap.size w0 W3 := by rw [hW3]; exact below_set (below_set (below_set (pw_below_drewN HB.out _) GE.out) GE.out) GE.out
 have k3 : KeepBut w W3 g none := by rw [hW3]; exact keep_far (keep_far (keep_far (keep_drewN HK.out _) GW.out _) GW.out _) GW.out _
 rw [← hW3]
 clear hW3
 have y0 : W3.cell? ⟨g4, 0, none⟩ = some (.int .i64 v0) := (blk_cell b3 0).trans rfl
 have y1 : W3.cell? ⟨g4, 1, none⟩ = some (.string v1) := (blk_cell b3 1).trans rfl
 have y2 : W3.cell? ⟨g4, 2, none⟩ = some (.int .i64 v2) := (blk_cell b3 2).trans rfl
 refine bodyPost_ret (v := .agg #[.int .i64 v0, .string v1, .int .i64 v2]) (by simp [results, Try.results67, go_sem, y0, y1, y2]) rfl ⟨by rw [hv0, hv1, hv2], i3, l3, k3⟩
theorem parse_parser_look.calls (g : Nat) (s0_0 : List S71) (s0_1 s0_2 : Int) (s0_3 : Bool) (a1 : Int) (r1 : Int) (r2 : ByteArray) (r3 r4 r5 : Int) (r6 : Bool) (w0 w : World) (hI : IsS83 w0 w g s0_0 s0_1 s0_2 s0_3) (hB : Below w0.heap.size w0 w) (h : parse_parser_look.f s0_0 s0_1 s0_2 s0_3 a1 = some (r1, r2, r3, r4, r5, r6)) :
  Calls Try.prog 67 #[.pointer (some ⟨g, 0, none⟩), .int .i64 a1] w fun e w' => e = .returned (.agg #[.int .i64 r1, .string r2, .int .i64 r3]) ∧ IsS83 w0 w' g s0_0 r4 r5 r6 ∧ Below w0.heap.size w0 w' ∧ KeepBut w w' g none := by
 unfold parse_parser_look.f at h
 cases s0_3 with
 | true =>
  rw [if_pos rfl] at h
  simp only [Option.some.injEq, Prod.mk.injEq] at h
  obtain ⟨rfl, rfl, rfl, rfl, rfl, rfl⟩ := h
  exact look1 g s0_0 _ _ a1 w0 w hI hB
 | false =>
  rw [if_neg (by decide)] at h
  by_cases h1 : wrap64 (s0_1 + a1) ≥ (s0_0.length : Int)
  ·rw [if_pos h1] at h
   simp only [Option.some.injEq, Prod.mk.injEq] at h
   obtain ⟨rfl, rfl, rfl, rfl, rfl, rfl⟩ := h
   exact look2 g s0_0 _ _ a1 w0 w hI hB h1
  ·rw [if_neg h1] at h
   by_cases h2 : 0 ≤ wrap64 (s0_1 + a1)
   ·rw [if_pos h2] at h
    simp only [Option.some.injEq, Prod.mk.injEq] at h
    obtain ⟨rfl, rfl, rfl, rfl, rfl, rfl⟩ := h
    exact look3 g s0_0 _ _ a1 w0 w hI hB h2 (Int.not_le.1 h1)
   ·rw [if_neg h2] at h
    cases h
abbrev EX_F := List S71 → Int → Int → Bool → Option (List S25 × Int × Int × Bool)
structure EX_C (EXF : EX_F) : Prop where
 out : ∀ (g : Nat) (s0_0 : List S71) (s0_1 s0_2 : Int) (s0_3 : Bool) (r1 : List S25) (r2 r3 : Int) (r4 : Bool) (w0 w : World) (_ : IsS83 w0 w g s0_0 s0_1 s0_2 s0_3) (_ : Below w0.heap.size w0 w) (_ : EXF s0_0 s0_1 s0_2 s0_3 = some (r1, r2, r3, r4)),
  Calls Try.prog 93 #[.pointer (some ⟨g, 0, none⟩)] w fun e w' => ∃ v0_ : Value, e = .returned (v0_) ∧ Kd.N k25 25 w' w.heap.size (fun k_ => (w.heap.size ≤ k_)) v0_ r1 ∧ IsS83 w0 w' g s0_0 r2 r3 r4 ∧ Below w0.heap.size w0 w' ∧ KeepBut w w' g none
end Go.Proofs.Ytdelccahgchadaa.P
end
section
namespace Go.Proofs.Ytdelccahgchadaa.P
open Go.RowKit Go.Proofs.YtdelccahgchadaaW.PrintWords Go.Proofs.YtdelccahgchadaaW.PrintLast Go.Proofs.YtdelccahgchadaaW.PrintMore
attribute [local go_sem] max2_int min2_int max_two min_two max_three min_three max_four min_four   
set_option linter.unusedVariables false
set_option linter.unusedSimpArgs false
def tree_Node.f (k : Nat) (a0_0 : Int) (a0_1 : ByteArray) (a0_2 : ByteArray) (a0_3 : ByteArray) (l0_4 : List ByteArray) (l1 : List (List (S25))) : Option ((List (S25))) := (some (([(⟨a0_0, a0_1, a0_2, a0_3, l0_4⟩ : S25)] : List (S25)) : List (S25))).bind fun y116 => ((api_Node_48.f k l1).bind fun t119 => (if y116.length + t119.length < 1759218604441 then (some (y116 ++ t119)) else (none)))
theorem tree_Node.mono : ∀ a0 a1 a2 a3 a4 a5 k, LeO (tree_Node.f k a0 a1 a2 a3 a4 a5) (tree_Node.f (k + 1) a0 a1 a2 a3 a4 a5) := by
 intro a0 a1 a2 a3 a4 a5 k
 unfold tree_Node.f
 with_reducible repeat' first
   | exact api_Node_48.mono _ _
   | exact LeO.refl _
   | exact LeO.none _
   | refine LeO.ite ?_ ?_
   | refine LeO.bind ?_ (fun _ => ?_)
set_option maxHeartbeats 8000000 in
set_option maxRecDepth 100000 in
theorem tree_Node.calls (k : Nat) (a0_0 : Int) (a0_1 : ByteArray) (a0_2 : ByteArray) (a0_3 : ByteArray) (P0_4_ : Nat → Prop) (A0_4 : Option Addr) (c0_4 : Nat) (l0_4 : List ByteArray) (P1_ : Nat → Prop) (A1 : Option Addr) (c1 : Nat) (l1 : List (List (S25))) (r : List (S25)) (w : World) (hs0_4 : Kd.V Kd.string 9 w w.heap.size (fun k_ => P0_4_ k_) (.slice A0_4 l0_4.length c0_4) l0_4) (hs1 : Kd.V (Kd.slice 25 k25) 22 w w.heap.size (fun k_ => P1_ k_) (.slice A1 l1.length c1) l1) (h : tree_Node.f k a0_0 a0_1 a0_2 a0_3 l0_4 l1 = some r) :
  Calls Try.prog 32 #[.agg #[.int .i64 a0_0, .string a0_1, .string a0_2, .string a0_3, .slice A0_4 l0_4.length c0_4], .slice A1 l1.length c1] w fun e w' => ∃ v0_ : Value, e = .returned (v0_) ∧ Kd.N k25 25 w' w.heap.size (fun k_ => ((P0_4_ k_ ∨ P1_ k_) ∨ w.heap.size ≤ k_)) v0_ r ∧ Below w.heap.size w w' := by
 have hu25 := Try.underlying25
 have HO0_4 := am (show Kd.V Kd.string 9 w w.heap.size (fun k_ => ((P0_4_ k_ ∨ P1_ k_) ∨ w.heap.size ≤ k_)) (.slice A0_4 l0_4.length c0_4) l0_4 from Kd.V_mono hs0_4 (fun k_ hk => .inl (.inl hk)))
 have HO1 := am (show Kd.V (Kd.slice 25 k25) 22 w w.heap.size (fun k_ => ((P0_4_ k_ ∨ P1_ k_) ∨ w.heap.size ≤ k_)) (.slice A1 l1.length c1) l1 from Kd.V_mono hs1 (fun k_ hk => .inl (.inr hk)))
 have HB := am (Below.refl w.heap.size w)
 unfold tree_Node.f at h
 have H := h
 clear h
 obtain ⟨y116, hy116⟩ : ∃ y_ : List (S25), y_ = (([(⟨a0_0, a0_1, a0_2, a0_3, l0_4⟩ : S25)] : List (S25))) := ⟨_, rfl⟩
 replace H : ((api_Node_48.f k l1).bind fun t119 => (if y116.length + t119.length < 1759218604441 then (some (y116 ++ t119)) else (none))) = some r := by first | (rw [hy116]; with_reducible exact H) | (have H2_ := (Option.bind_some _ _).symm.trans H; rw [hy116]; with_reducible exact H2_) | (have H2_ := (Option.bind_some _ _).symm.trans H; with_reducible exact H2_) | with_reducible exact H | (rw [hy116]; exact H) | exact H
 have Ny116 := am hy116
 clear hy116
 obtain ⟨t119, A3, H⟩ := bO H
 try dsimp only at H
 by_cases c4 : y116.length + t119.length < 1759218604441
 ·rw [if_pos c4] at H
  have LMc4 := am c4
  clear c4
  obtain ⟨y122, hy122⟩ : ∃ y_ : List (S25), y_ = (y116 ++ t119) := ⟨_, rfl⟩
  replace H : (some y122) = some r := by first | (rw [hy122]; with_reducible exact H) | (have H2_ := (Option.bind_some _ _).symm.trans H; rw [hy122]; with_reducible exact H2_) | (have H2_ := (Option.bind_some _ _).symm.trans H; with_reducible exact H2_) | with_reducible exact H | (rw [hy122]; exact H) | exact H
  have Ny122 := am hy122
  clear hy122
  obtain rfl := Option.some.inj H
  go_enter Try.func32, Try.ntmps32
  try go_wp2_with ((with_reducible refine gD 2 rfl ?_); refine bx 2 #[.int .i64 a0_0, .string a0_1, .string a0_2, .string a0_3, .slice A0_4 l0_4.length c0_4] 25 ?_; intro gb115 hg w5 hbox hb; replace HO0_4 := am (Kd.V_below (Kd.V_elderB (vB HO0_4) gb115 (Nat.le_of_eq hg.symm)) hb); replace HO1 := am (Kd.V_below (Kd.V_elderB (vB HO1) gb115 (Nat.le_of_eq hg.symm)) hb); have BK115 := am hbox; have GW115 := am (geL hg (kL HB)); replace HB := am (below_step (kL HB) hb); have GE115 := GW115; clear hb hbox hg)
  replace HO0_4 := am (Kd.V_drew HO0_4.out)
  replace HO1 := am (Kd.V_drew HO1.out)
  replace BK115 := am (bD BK115.out)
  replace HB := am (lD HB.out)
  refine start_ (n := 6) (S := fun w' => w'.cell? ⟨gb115, 0, none⟩ = some (.int .i64 a0_0) ∧ w'.cell? ⟨gb115, 1, none⟩ = some (.string a0_1) ∧ w'.cell? ⟨gb115, 2, none⟩ = some (.string a0_2) ∧ w'.cell? ⟨gb115, 3, none⟩ = some (.string a0_3) ∧ w'.cell? ⟨gb115, 4, none⟩ = some (.slice A0_4 l0_4.length c0_4)) (ds := []) #[false, false, false, false, false, false] (by kernel_rfl) rfl rfl ⟨(blk_cell BK115.out 0).trans rfl, (blk_cell BK115.out 1).trans rfl, (blk_cell BK115.out 2).trans rfl, (blk_cell BK115.out 3).trans rfl, (blk_cell BK115.out 4).trans rfl⟩ (fun hHeld => ?_)
  generalize w5.drew = w6 at HO0_4 HO1 BK115 HB hHeld ⊢
  refine pure_ (i := 2) (N := some 7) (v := ?_) (a' := ?_) #[false, false, true, false, false, false] rfl rfl (by kernel_rfl) (fun _ _ _ h => h) (Or.inl ⟨by rfl, ?_⟩) ?_ ?_
  rotate_left
  ·intro w'
   go_simp
   with_reducible rfl
  rotate_left
  ·simp only [Act.put, zT, z0, zS, i64_w, i32_w]
   rfl
  refine take_ (i := 0) (N := some 5) (v := ?_) (a' := ?_) #[true, false, true, false, false, false] rfl rfl (by kernel_rfl) (fun _ _ _ h => h) (Or.inl ⟨by rfl, ?_⟩) hHeld ?_ ?_
  rotate_left
  ·rintro w' ⟨s0, s1, s2, s3, s4⟩
   go_simp
   with_reducible rfl
  rotate_left
  ·simp only [Act.put, zT, z0, zS, i64_w, i32_w]
   rfl
  refine join_ (σ := Value × Value) 2 #[true, true, true, true, false, false] (fun s_ => [(6, s_.1), (8, s_.2)]) (fun s_ w' => (w'.cell? ⟨gb115, 0, none⟩ = some (.int .i64 a0_0) ∧ w'.cell? ⟨gb115, 1, none⟩ = some (.string a0_1) ∧ w'.cell? ⟨gb115, 2, none⟩ = some (.string a0_2) ∧ w'.cell? ⟨gb115, 3, none⟩ = some (.string a0_3) ∧ w'.cell? ⟨gb115, 4, none⟩ = some (.slice A0_4 l0_4.length c0_4)) ∧ (Kd.V Kd.string 9 w' w.heap.size (fun k_ => ((P0_4_ k_ ∨ P1_ k_) ∨ w.heap.size ≤ k_) ∧ some k_ ≠ (s_.1 : Value).ownBlock ∧ some k_ ≠ (s_.2 : Value).ownBlock ∧ k_ ≠ gb115) (.slice A0_4 l0_4.length c0_4) l0_4) ∧ (Kd.V (Kd.slice 25 k25) 22 w' w.heap.size (fun k_ => ((P0_4_ k_ ∨ P1_ k_) ∨ w.heap.size ≤ k_) ∧ some k_ ≠ (s_.1 : Value).ownBlock ∧ some k_ ≠ (s_.2 : Value).ownBlock ∧ k_ ≠ gb115) (.slice A1 l1.length c1) l1) ∧ (Kd.N k25 25 w' w.heap.size (fun k_ => ((P0_4_ k_ ∨ P1_ k_) ∨ w.heap.size ≤ k_) ∧ some k_ ≠ (s_.2 : Value).ownBlock ∧ k_ ≠ gb115) s_.1 y116) ∧ (Kd.N k25 25 w' w.heap.size (fun k_ => ((P0_4_ k_ ∨ P1_ k_) ∨ w.heap.size ≤ k_) ∧ some k_ ≠ (s_.1 : Value).ownBlock ∧ k_ ≠ gb115) s_.2 t119) ∧ (w'.heap[gb115]? = some (.cells #[.int .i64 a0_0, .string a0_1, .string a0_2, .string a0_3, .slice A0_4 l0_4.length c0_4] 25 (0, 0))) ∧ (Below w.heap.size w w')) ?_ ?_
  rotate_left
  ·intro hCont
   refine two_ (i := 1) (j := 3) (Ni := some 6) (Nj := some 8) #[true, true, true, false, false, false] #[true, false, true, true, false, false] rfl rfl rfl rfl (by kernel_rfl) (by decide) (by decide) (fun K hK => ?_) (fun K hK => ?_)
   ·skip
    refine Kd.N_lit_step k25 _ 25 ?hg (N' := 6) ?hd (xs := ([(⟨a0_0, a0_1, a0_2, a0_3, l0_4⟩ : S25)] : List (S25))) (inner := [.int .i64 a0_0, .string a0_1, .string a0_2, .string a0_3, .slice A0_4 l0_4.length c0_4]) (ok := (fun k_ => ((P0_4_ k_ ∨ P1_ k_) ∨ w.heap.size ≤ k_) ∧ k_ ≠ gb115)) (okp := (fun k_ => ((P0_4_ k_ ∨ P1_ k_) ∨ w.heap.size ≤ k_) ∧ k_ ≠ gb115)) ?hr ?hp (fun _ hk => hk) ((show ∀ k_, w6.heap.size ≤ k_ → (fun k_ => ((P0_4_ k_ ∨ P1_ k_) ∨ w.heap.size ≤ k_) ∧ k_ ≠ gb115) k_ from fun k_ hk => ⟨(.inr (Nat.le_trans (below_size (kL HB)) hk)), Kd.freshB (g := gb115) (o := .cells #[.int .i64 a0_0, .string a0_1, .string a0_2, .string a0_3, .slice A0_4 l0_4.length c0_4] 25 (0, 0)) (kB BK115) k_ hk⟩) _ (Nat.le_refl _)) (Below.refl _ _) (Nat.le_refl _) (by simp) ?_; (case hd => rfl); (case hg => rfl); (case hr => first | (go_simp; done) | (go_simp; rfl)); (case hp => exact (Reps.c5 (show Kd.FK k25 _ _ (⟨a0_0, a0_1, a0_2, a0_3, l0_4⟩ : S25) [.int .i64 a0_0, .string a0_1, .string a0_2, .string a0_3, .slice A0_4 l0_4.length c0_4] from (k25_mkF _ _ (⟨a0_0, a0_1, a0_2, a0_3, l0_4⟩ : S25) (Kd.V_reads' (Kd.V_mono (ok' := (fun k_ => ((P0_4_ k_ ∨ P1_ k_) ∨ w.heap.size ≤ k_) ∧ k_ ≠ gb115)) (HO0_4.out) (fun k_ hk => ⟨hk.1, hk.2⟩))).2.1 (Kd.V_F (Kd.V_mono (ok' := (fun k_ => ((P0_4_ k_ ∨ P1_ k_) ∨ w.heap.size ≤ k_) ∧ k_ ≠ gb115)) (HO0_4.out) (fun k_ hk => ⟨hk.1, hk.2⟩))))) (Reps.none _ _)))
    intro v117 w7 ho8 hb hg_ hnew_
    clear hg_ hnew_
    (first | rw [← Ny116.out] at ho8 | (simp only [Int.reduceToNat] at ho8; rw [← Ny116.out] at ho8))
    replace HO0_4 := am (Kd.V_elder' (vB HO0_4) (Kd.N_base ho8) hb)
    replace HO1 := am (Kd.V_elder' (vB HO1) (Kd.N_base ho8) hb)
    have HO118 := am (Kd.N_lower ho8 (below_size (kL HB)))
    replace BK115 := am (bB (kB BK115) hb)
    replace HB := am (below_step (kL HB) hb)
    clear hb ho8
    refine hK.out _ _ ⟨(blk_cell BK115.out 0).trans rfl, (blk_cell BK115.out 1).trans rfl, (blk_cell BK115.out 2).trans rfl, (blk_cell BK115.out 3).trans rfl, (blk_cell BK115.out 4).trans rfl⟩ (fun hHeld => ?_)
    clear hK K
    refine norm_ (a' := ?_) ?_ ?_
    rotate_left
    ·show Act.put _ (some 6) _ = _
     simp only [Act.put, zT, z0, zS, i64_w, i32_w]
     rfl
    refine one_ (i := 3) (N := some 8) #[true, true, true, true, false, false] rfl rfl (by kernel_rfl) (by decide) (fun K hK => ?_)
    refine goes_ Try.func48 (by kernel_rfl) rfl #[.slice A1 l1.length c1] (by rfl) rfl rfl yA ?_
    with_reducible refine (api_Node_48.calls k (fun k_ => ((((P0_4_ k_ ∨ P1_ k_) ∨ w.heap.size ≤ k_) ∧ k_ ≠ gb115) ∧ some k_ ≠ (v117 : Value).ownBlock)) _ _ l1 t119 _ ?side1 A3.out).mono ?_
    (case side1 => exact HO1.out)
    rintro e w9 ⟨v120, rfl, ho0, hb⟩
    refine ⟨_, rfl, ?_⟩
    replace HO0_4 := am (Kd.V_elder' (vB HO0_4) (Kd.N_base ho0) hb)
    replace HO1 := am (Kd.V_elder' (vB HO1) (Kd.N_base ho0) hb)
    have HO121 := am (Kd.N_lower (Kd.N_mono (ok' := fun k_ => ((P0_4_ k_ ∨ P1_ k_) ∨ w.heap.size ≤ k_) ∧ some k_ ≠ (v117 : Value).ownBlock ∧ k_ ≠ gb115) ho0 (fun k_ hk_ => ⟨Or.elim hk_ (fun hs_ => hs_.1.1) (fun hn_ => (.inr (Nat.le_trans (below_size (kL HB)) hn_))), Or.elim hk_ (fun hs_ => hs_.2) (fun hn_ => (Kd.fresh' (Kd.N_lt (nB HO118)) k_ hn_)), Or.elim hk_ (fun hs_ => hs_.1.2) (fun hn_ => (Kd.freshB (g := gb115) (o := .cells #[.int .i64 a0_0, .string a0_1, .string a0_2, .string a0_3, .slice A0_4 l0_4.length c0_4] 25 (0, 0)) (kB BK115) k_ hn_))⟩)) (below_size (kL HB)))
    replace HO118 := am (Kd.N_elder' (nB HO118) (Kd.N_base ho0) hb)
    replace BK115 := am (bB (kB BK115) hb)
    replace HB := am (below_step (kL HB) hb)
    (try clear hb)
    (try clear hb2)
    (try clear hk)
    (try clear hi)
    (try clear ho0)
    refine hK.out _ _ ⟨(blk_cell BK115.out 0).trans rfl, (blk_cell BK115.out 1).trans rfl, (blk_cell BK115.out 2).trans rfl, (blk_cell BK115.out 3).trans rfl, (blk_cell BK115.out 4).trans rfl⟩ (fun hHeld => ?_)
    clear hK K
    refine norm_ (a' := ?_) ?_ ?_
    rotate_left
    ·show Act.put _ (some 8) _ = _
     simp only [Act.put, zT, z0, zS, i64_w, i32_w]
     rfl
    exact norm_ (by simp only [putAll, Act.put, zT, z0, zS]) (hCont (v117, v120) _ ⟨hHeld, (Kd.V_mono (vB HO0_4) (fun _ hk => ⟨hk.1.1.1, ⟨hk.1.2, ⟨hk.2, hk.1.1.2⟩⟩⟩)), (Kd.V_mono (vB HO1) (fun _ hk => ⟨hk.1.1.1, ⟨hk.1.2, ⟨hk.2, hk.1.1.2⟩⟩⟩)), (Kd.N_mono (nB HO118) (fun _ hk => ⟨hk.1.1, ⟨hk.2, hk.1.2⟩⟩)), (nB HO121), (kB BK115), (kL HB)⟩)
   ·skip
    refine goes_ Try.func48 (by kernel_rfl) rfl #[.slice A1 l1.length c1] (by rfl) rfl rfl yA ?_
    with_reducible refine (api_Node_48.calls k (fun k_ => (((P0_4_ k_ ∨ P1_ k_) ∨ w.heap.size ≤ k_) ∧ k_ ≠ gb115)) _ _ l1 t119 _ ?side1 A3.out).mono ?_
    (case side1 => exact HO1.out)
    rintro e w7 ⟨v120, rfl, ho0, hb⟩
    refine ⟨_, rfl, ?_⟩
    replace HO0_4 := am (Kd.V_elder' (vB HO0_4) (Kd.N_base ho0) hb)
    replace HO1 := am (Kd.V_elder' (vB HO1) (Kd.N_base ho0) hb)
    have HO121 := am (Kd.N_lower (Kd.N_mono (ok' := fun k_ => ((P0_4_ k_ ∨ P1_ k_) ∨ w.heap.size ≤ k_) ∧ k_ ≠ gb115) ho0 (fun k_ hk_ => ⟨Or.elim hk_ (fun hs_ => hs_.1) (fun hn_ => (.inr (Nat.le_trans (below_size (kL HB)) hn_))), Or.elim hk_ (fun hs_ => hs_.2) (fun hn_ => (Kd.freshB (g := gb115) (o := .cells #[.int .i64 a0_0, .string a0_1, .string a0_2, .string a0_3, .slice A0_4 l0_4.length c0_4] 25 (0, 0)) (kB BK115) k_ hn_))⟩)) (below_size (kL HB)))
    replace BK115 := am (bB (kB BK115) hb)
    replace HB := am (below_step (kL HB) hb)
    (try clear hb)
    (try clear hb2)
    (try clear hk)
    (try clear hi)
    (try clear ho0)
    refine hK.out _ _ ⟨(blk_cell BK115.out 0).trans rfl, (blk_cell BK115.out 1).trans rfl, (blk_cell BK115.out 2).trans rfl, (blk_cell BK115.out 3).trans rfl, (blk_cell BK115.out 4).trans rfl⟩ (fun hHeld => ?_)
    clear hK K
    refine norm_ (a' := ?_) ?_ ?_
    rotate_left
    ·show Act.put _ (some 8) _ = _
     simp only [Act.put, zT, z0, zS, i64_w, i32_w]
     rfl
    refine one_ (i := 1) (N := some 6) #[true, true, true, true, false, false] rfl rfl (by kernel_rfl) (by decide) (fun K hK => ?_)
    refine Kd.N_lit_step k25 _ 25 ?hg (N' := 6) ?hd (xs := ([(⟨a0_0, a0_1, a0_2, a0_3, l0_4⟩ : S25)] : List (S25))) (inner := [.int .i64 a0_0, .string a0_1, .string a0_2, .string a0_3, .slice A0_4 l0_4.length c0_4]) (ok := (fun k_ => ((P0_4_ k_ ∨ P1_ k_) ∨ w.heap.size ≤ k_) ∧ some k_ ≠ (v120 : Value).ownBlock ∧ k_ ≠ gb115)) (okp := (fun k_ => ((P0_4_ k_ ∨ P1_ k_) ∨ w.heap.size ≤ k_) ∧ some k_ ≠ (v120 : Value).ownBlock ∧ k_ ≠ gb115)) ?hr ?hp (fun _ hk => hk) ((show ∀ k_, w7.heap.size ≤ k_ → (fun k_ => ((P0_4_ k_ ∨ P1_ k_) ∨ w.heap.size ≤ k_) ∧ some k_ ≠ (v120 : Value).ownBlock ∧ k_ ≠ gb115) k_ from fun k_ hk => ⟨(.inr (Nat.le_trans (below_size (kL HB)) hk)), Kd.fresh' (Kd.N_lt (nB HO121)) k_ hk, Kd.freshB (g := gb115) (o := .cells #[.int .i64 a0_0, .string a0_1, .string a0_2, .string a0_3, .slice A0_4 l0_4.length c0_4] 25 (0, 0)) (kB BK115) k_ hk⟩) _ (Nat.le_refl _)) (Below.refl _ _) (Nat.le_refl _) (by simp) ?_; (case hd => rfl); (case hg => rfl); (case hr => first | (go_simp; done) | (go_simp; rfl)); (case hp => exact (Reps.c5 (show Kd.FK k25 _ _ (⟨a0_0, a0_1, a0_2, a0_3, l0_4⟩ : S25) [.int .i64 a0_0, .string a0_1, .string a0_2, .string a0_3, .slice A0_4 l0_4.length c0_4] from (k25_mkF _ _ (⟨a0_0, a0_1, a0_2, a0_3, l0_4⟩ : S25) (Kd.V_reads' (Kd.V_mono (ok' := (fun k_ => ((P0_4_ k_ ∨ P1_ k_) ∨ w.heap.size ≤ k_) ∧ some k_ ≠ (v120 : Value).ownBlock ∧ k_ ≠ gb115)) (HO0_4.out) (fun k_ hk => ⟨hk.1.1, ⟨hk.2, hk.1.2⟩⟩))).2.1 (Kd.V_F (Kd.V_mono (ok' := (fun k_ => ((P0_4_ k_ ∨ P1_ k_) ∨ w.heap.size ≤ k_) ∧ some k_ ≠ (v120 : Value).ownBlock ∧ k_ ≠ gb115)) (HO0_4.out) (fun k_ hk => ⟨hk.1.1, ⟨hk.2, hk.1.2⟩⟩))))) (Reps.none _ _)))
    intro v117 w8 ho9 hb hg_ hnew_
    clear hg_ hnew_
    (first | rw [← Ny116.out] at ho9 | (simp only [Int.reduceToNat] at ho9; rw [← Ny116.out] at ho9))
    replace HO0_4 := am (Kd.V_elder' (vB HO0_4) (Kd.N_base ho9) hb)
    replace HO1 := am (Kd.V_elder' (vB HO1) (Kd.N_base ho9) hb)
    replace HO121 := am (Kd.N_elder' (nB HO121) (Kd.N_base ho9) hb)
    have HO118 := am (Kd.N_lower ho9 (below_size (kL HB)))
    replace BK115 := am (bB (kB BK115) hb)
    replace HB := am (below_step (kL HB) hb)
    clear hb ho9
    refine hK.out _ _ ⟨(blk_cell BK115.out 0).trans rfl, (blk_cell BK115.out 1).trans rfl, (blk_cell BK115.out 2).trans rfl, (blk_cell BK115.out 3).trans rfl, (blk_cell BK115.out 4).trans rfl⟩ (fun hHeld => ?_)
    clear hK K
    refine norm_ (a' := ?_) ?_ ?_
    rotate_left
    ·show Act.put _ (some 6) _ = _
     simp only [Act.put, zT, z0, zS, i64_w, i32_w]
     rfl
    exact norm_ (by simp only [putAll, Act.put, zT, z0, zS]) (hCont (v117, v120) _ ⟨hHeld, (Kd.V_mono (vB HO0_4) (fun _ hk => ⟨hk.1.1.1, ⟨hk.2, ⟨hk.1.2, hk.1.1.2⟩⟩⟩)), (Kd.V_mono (vB HO1) (fun _ hk => ⟨hk.1.1.1, ⟨hk.2, ⟨hk.1.2, hk.1.1.2⟩⟩⟩)), (nB HO118), (Kd.N_mono (nB HO121) (fun _ hk => ⟨hk.1.1, ⟨hk.2, hk.1.2⟩⟩)), (kB BK115), (kL HB)⟩)
  rintro ⟨v117, v120⟩ w10 ⟨hS_, h0_, h1_, h2_, h3_, h4_, h5_⟩
  have n0_ : Aside0 (Kd.V Kd.string 9 w10 w.heap.size (fun k_ => ((P0_4_ k_ ∨ P1_ k_) ∨ w.heap.size ≤ k_) ∧ some k_ ≠ (v117 : Value).ownBlock ∧ some k_ ≠ (v120 : Value).ownBlock ∧ k_ ≠ gb115) (.slice A0_4 l0_4.length c0_4) l0_4) := ⟨h0_⟩
  have n1_ : Aside0 (Kd.V (Kd.slice 25 k25) 22 w10 w.heap.size (fun k_ => ((P0_4_ k_ ∨ P1_ k_) ∨ w.heap.size ≤ k_) ∧ some k_ ≠ (v117 : Value).ownBlock ∧ some k_ ≠ (v120 : Value).ownBlock ∧ k_ ≠ gb115) (.slice A1 l1.length c1) l1) := ⟨h1_⟩
  have n2_ : Aside0 (Kd.N k25 25 w10 w.heap.size (fun k_ => ((P0_4_ k_ ∨ P1_ k_) ∨ w.heap.size ≤ k_) ∧ some k_ ≠ (v120 : Value).ownBlock ∧ k_ ≠ gb115) v117 y116) := ⟨h2_⟩
  have n3_ : Aside0 (Kd.N k25 25 w10 w.heap.size (fun k_ => ((P0_4_ k_ ∨ P1_ k_) ∨ w.heap.size ≤ k_) ∧ some k_ ≠ (v117 : Value).ownBlock ∧ k_ ≠ gb115) v120 t119) := ⟨h3_⟩
  have n4_ : Aside0 (w10.heap[gb115]? = some (.cells #[.int .i64 a0_0, .string a0_1, .string a0_2, .string a0_3, .slice A0_4 l0_4.length c0_4] 25 (0, 0))) := ⟨h4_⟩
  have n5_ : Aside0 (Below w.heap.size w w10) := ⟨h5_⟩
  clear HO0_4
  clear HO1
  clear BK115
  clear HB
  clear h0_ h1_ h2_ h3_ h4_ h5_
  have HO0_4 := n0_
  have HO1 := n1_
  have HO118 := n2_
  have HO121 := n3_
  have BK115 := n4_
  have HB := n5_
  clear n0_ n1_ n2_ n3_ n4_ n5_
  have hHeld : w10.cell? ⟨gb115, 0, none⟩ = some (.int .i64 a0_0) ∧ w10.cell? ⟨gb115, 1, none⟩ = some (.string a0_1) ∧ w10.cell? ⟨gb115, 2, none⟩ = some (.string a0_2) ∧ w10.cell? ⟨gb115, 3, none⟩ = some (.string a0_3) ∧ w10.cell? ⟨gb115, 4, none⟩ = some (.slice A0_4 l0_4.length c0_4) := hS_
  obtain ⟨Ao12, co12, eo12⟩ := Kd.N_slice HO121.out
  (first | subst eo12 | (injection eo12 with f1_ f2_ f3_; have f4_ := f1_.symm; have f5_ := f3_.symm; clear f1_ f2_ f3_; subst f4_; subst f5_))
  refine norm_ (a' := ?_) ?_ ?_
  rotate_left
  ·simp only [putAll, Act.put, zT, z0, zS]
   rfl
  refine one_ (i := 4) (N := some 9) #[true, true, true, true, true, false] rfl rfl (by kernel_rfl) (by decide) (fun K hK => ?_)
  refine Kd.N_append_rows_step k25 (w0 := w) w.heap.size (by rfl) (.tmp 6) (.tmp 8) 22 25 (.agg #[(.int .i64 0), (.string ⟨#[]⟩), (.string ⟨#[]⟩), (.string ⟨#[]⟩), (.slice none 0 0)]) 80 rfl Try.underlying22 info25 rfl (by decide) (by omega) v117 y116 t119 _ _ _ (fun k_ => ((P0_4_ k_ ∨ P1_ k_) ∨ w.heap.size ≤ k_) ∧ k_ ≠ gb115) (fun k_ => ((fun k_ => ((P0_4_ k_ ∨ P1_ k_) ∨ w.heap.size ≤ k_) ∧ k_ ≠ gb115)) k_ ∧ some k_ ≠ (v117 : Value).ownBlock) rfl rfl ?aO ?aR (fun _ hk => hk) ?aF ?aB ?aS ?aL ?_
  (case aR => exact (by skip; exact Kd.N_F (Kd.N_mono (ok' := (fun k_ => ((fun k_ => ((P0_4_ k_ ∨ P1_ k_) ∨ w.heap.size ≤ k_) ∧ k_ ≠ gb115)) k_ ∧ some k_ ≠ (v117 : Value).ownBlock)) (HO121.out) (fun k_ hk => ⟨⟨hk.1, hk.2.2⟩, hk.2.1⟩))))
  (case aB => exact (kL HB))
  (case aF => exact (fun k_ hk => ⟨(.inr (Nat.le_trans (below_size (kL HB)) hk)), Kd.freshB (g := gb115) (o := .cells #[.int .i64 a0_0, .string a0_1, .string a0_2, .string a0_3, .slice A0_4 l0_4.length c0_4] 25 (0, 0)) (kB BK115) k_ hk⟩))
  (case aO => exact (Kd.N_mono (nB HO118) (fun _ hk => ⟨hk.1, hk.2.2⟩)))
  (case aS => exact (below_size (kL HB)))
  (case aL => have := LMc4.out; omega)
  intro v123 w11 ho hb hg hat
  rw [← Ny122.out] at ho
  have n0_ := am (Kd.V_afterv (ok := (fun k_ => ((P0_4_ k_ ∨ P1_ k_) ∨ w.heap.size ≤ k_) ∧ some k_ ≠ (.slice Ao12 t119.length co12 : Value).ownBlock ∧ k_ ≠ gb115)) (Kd.V_mono (vB HO0_4) (fun _ hk => ⟨⟨hk.1, ⟨hk.2.2.1, hk.2.2.2⟩⟩, hk.2.1⟩)) hg hat)
  have n1_ := am (Kd.V_afterv (ok := (fun k_ => ((P0_4_ k_ ∨ P1_ k_) ∨ w.heap.size ≤ k_) ∧ some k_ ≠ (.slice Ao12 t119.length co12 : Value).ownBlock ∧ k_ ≠ gb115)) (Kd.V_mono (vB HO1) (fun _ hk => ⟨⟨hk.1, ⟨hk.2.2.1, hk.2.2.2⟩⟩, hk.2.1⟩)) hg hat)
  have n2_ := am (blk_grown (g := gb115) (o := .cells #[.int .i64 a0_0, .string a0_1, .string a0_2, .string a0_3, .slice A0_4 l0_4.length c0_4] 25 (0, 0)) (kB BK115) hg (Kd.N_away HO118.out (fun _ hk => hk.2.2)))
  have n3_ := am (Kd.N_afterv (ok := (fun k_ => ((P0_4_ k_ ∨ P1_ k_) ∨ w.heap.size ≤ k_) ∧ k_ ≠ gb115)) (Kd.N_mono (nB HO121) (fun _ hk => ⟨⟨hk.1, hk.2.2⟩, hk.2.1⟩)) hg hat)
  have n4_ := am hb
  have n5_ := am (ho)
  clear HO0_4
  clear HO1
  clear BK115
  clear HO121
  clear HB
  clear HO118
  have HO0_4 := n0_
  have HO1 := n1_
  have BK115 := n2_
  have HO121 := n3_
  have HB := n4_
  have HO124 := n5_
  clear n0_ n1_ n2_ n3_ n4_ n5_
  clear ho hb hg hat
  refine hK.out _ _ ⟨(blk_cell BK115.out 0).trans rfl, (blk_cell BK115.out 1).trans rfl, (blk_cell BK115.out 2).trans rfl, (blk_cell BK115.out 3).trans rfl, (blk_cell BK115.out 4).trans rfl⟩ (fun hHeld => ?_)
  clear hK K
  refine norm_ (a' := ?_) ?_ ?_
  rotate_left
  ·show Act.put _ (some 9) _ = _
   simp only [Act.put, zT, z0, zS, i64_w, i32_w]
   rfl
  refine pure_ (i := 5) (N := some 4) (v := ?_) (a' := ?_) #[true, true, true, true, true, true] rfl rfl (by kernel_rfl) (fun _ _ _ h => h) (Or.inl ⟨by rfl, ?_⟩) ?_ ?_
  rotate_left
  ·intro w'
   go_simp
   with_reducible rfl
  rotate_left
  ·simp only [Act.put, zT, z0, zS, i64_w, i32_w]
   rfl
  refine done_ (by kernel_rfl) ?_
  try go_wp2
  go_ret
  exact ⟨_, yE, Kd.N_mono (nB HO124) (fun _ hk => hk.1), (kL HB)⟩
 ·rw [if_neg c4] at H
  exact absurd H (by simp)
def parse_parser_is.f (s0_0 : List (S71)) (s0_1 : Int) (s0_2 : Int) (s0_3 : Bool) (a1 : Int) (a2 : ByteArray) : Option (Bool × Int × Int × Bool) := (parse_parser_look.f s0_0 s0_1 s0_2 s0_3 a1).bind fun bt125 => (if bt125.1 = 6 then (some ((bt125.2.1.toList == a2.toList), bt125.2.2.2.1, bt125.2.2.2.2.1, bt125.2.2.2.2.2)) else (some (false, bt125.2.2.2.1, bt125.2.2.2.2.1, bt125.2.2.2.2.2)))
set_option maxHeartbeats 8000000 in
set_option maxRecDepth 100000 in
theorem parse_parser_is.calls (g : Nat) (s0_0 : List (S71)) (s0_1 : Int) (s0_2 : Int) (s0_3 : Bool) (a1 : Int) (a2 : ByteArray) (r1 : Bool) (r2 : Int) (r3 : Int) (r4 : Bool) (w0 w : World) (hI : IsS83 w0 w g s0_0 s0_1 s0_2 s0_3) (hB : Below w0.heap.size w0 w) (h : parse_parser_is.f s0_0 s0_1 s0_2 s0_3 a1 a2 = some (r1, r2, r3, r4)) :
  Calls Try.prog 92 #[.pointer (some ⟨g, 0, none⟩), .int .i64 a1, .string a2] w fun e w' => e = .returned (.bool r1) ∧ IsS83 w0 w' g s0_0 r2 r3 r4 ∧ Below w0.heap.size w0 w' ∧ KeepBut w w' g none := by
 have hu71 := Try.underlying71
 have HI0 := am hI
 have HK := am (KeepBut.refl w g none)
 have HL := am hB.size
 clear hI
 have HW0 := am hB.size
 have HB := am hB
 clear hB
 unfold parse_parser_is.f at h
 have H := h
 clear h
 obtain ⟨⟨t125, t126, t127, t128, t129, t130⟩, A4, H⟩ := bO H
 try dsimp only at H
 by_cases c5 : t125 = 6
 ·rw [if_pos c5] at H
  have c5b0 := eT c5
  have c5b1 := nF c5
  clear c5
  simp only [Option.some.injEq, Prod.mk.injEq] at H
  obtain ⟨rfl, rfl, rfl, rfl⟩ := H
  go_enter Try.func92, Try.ntmps92
  go_wp2_with (first | ((with_reducible refine gC 67 rfl ?_); refine gL (some 10) Try.func67 #[.pointer (some ⟨g, 0, none⟩), .int .i64 a1] ?_; (with_reducible refine (parse_parser_look.calls _ _ _ _ _ _ _ _ _ _ _ _ w0 _ ?side1 ?side2 A4.out).mono ?_); (case side1 => exact yI); (case side2 => exact (kLI HB)); rintro e w6 ⟨rfl, hi, hb, hk⟩; refine ⟨_, rfl, ?_⟩; replace HK := am (KeepBut.trans (kK HK) hk (.inl rfl)); replace HB := am hb; replace HI0 := am hi; (try clear hi hb hk)) | ((with_reducible refine gD 7 rfl ?_); refine bx 7 #[.int .i64 0, .string (⟨#[]⟩ : ByteArray), .int .i64 0] 71 ?_; intro gb131 hg w7 hbox hb; replace HB := am (below_step (kLI HB) hb); have BK131 := am hbox; have GW131 := am ((by rw [hg]; exact (keep_size (w := w) (g := g) (row := none) (kK HK)) : w.heap.size ≤ gb131)); have GE131 := am ((Nat.le_trans HW0.out (by rw [hg]; exact (keep_size (w := w) (g := g) (row := none) (kK HK)) : w.heap.size ≤ gb131) : w0.heap.size ≤ gb131)); replace HK := am (KeepBut.trans (kK HK) (KeepBut.of_below hb g none) (.inl rfl)); have NB0_131 := am ((by rw [hg]; exact Nat.ne_of_lt (IsS83.lt (show IsS83 w0 _ g s0_0 t128 t129 t130 from yI)) : g ≠ gb131)); have NB131_0 := am ((by rw [hg]; exact Nat.ne_of_gt (IsS83.lt (show IsS83 w0 _ g s0_0 t128 t129 t130 from yI)) : gb131 ≠ g)); replace HI0 := am (IsS83.below yI hb); clear hb hbox hg; have hnb8 := NB131_0.out; have hnc8 := NB0_131.out; obtain ⟨hcz9_0, hcz9_1, hcz9_2, hfz9_0, hfz9_1, hfz9_2⟩ := bk3 BK131.out))
  go_ret
  exact ⟨yE, yI, (kLI HB), (kK HK)⟩
 ·rw [if_neg c5] at H
  have c5b0 := eF c5
  have c5b1 := nT c5
  simp only [Option.some.injEq, Prod.mk.injEq] at H
  obtain ⟨rfl, rfl, rfl, rfl⟩ := H
  go_enter Try.func92, Try.ntmps92
  go_wp2_with (first | ((with_reducible refine gC 67 rfl ?_); refine gL (some 10) Try.func67 #[.pointer (some ⟨g, 0, none⟩), .int .i64 a1] ?_; (with_reducible refine (parse_parser_look.calls _ _ _ _ _ _ _ _ _ _ _ _ w0 _ ?side1 ?side2 A4.out).mono ?_); (case side1 => exact yI); (case side2 => exact (kLI HB)); rintro e w10 ⟨rfl, hi, hb, hk⟩; refine ⟨_, rfl, ?_⟩; replace HK := am (KeepBut.trans (kK HK) hk (.inl rfl)); replace HB := am hb; replace HI0 := am hi; (try clear hi hb hk)) | ((with_reducible refine gD 7 rfl ?_); refine bx 7 #[.int .i64 0, .string (⟨#[]⟩ : ByteArray), .int .i64 0] 71 ?_; intro gb131 hg w11 hbox hb; replace HB := am (below_step (kLI HB) hb); have BK131 := am hbox; have GW131 := am ((by rw [hg]; exact (keep_size (w := w) (g := g) (row := none) (kK HK)) : w.heap.size ≤ gb131)); have GE131 := am ((Nat.le_trans HW0.out (by rw [hg]; exact (keep_size (w := w) (g := g) (row := none) (kK HK)) : w.heap.size ≤ gb131) : w0.heap.size ≤ gb131)); replace HK := am (KeepBut.trans (kK HK) (KeepBut.of_below hb g none) (.inl rfl)); have NB0_131 := am ((by rw [hg]; exact Nat.ne_of_lt (IsS83.lt (show IsS83 w0 _ g s0_0 t128 t129 t130 from yI)) : g ≠ gb131)); have NB131_0 := am ((by rw [hg]; exact Nat.ne_of_gt (IsS83.lt (show IsS83 w0 _ g s0_0 t128 t129 t130 from yI)) : gb131 ≠ g)); replace HI0 := am (IsS83.below yI hb); clear hb hbox hg; have hnb12 := NB131_0.out; have hnc12 := NB0_131.out; obtain ⟨hcz13_0, hcz13_1, hcz13_2, hfz13_0, hfz13_1, hfz13_2⟩ := bk3 BK131.out))
  go_ret
  exact ⟨yE, yI, (kLI HB), (kK HK)⟩
def parse_parser_verbs.f (s0_0 : List (S71)) (s0_1 : Int) (s0_2 : Int) (s0_3 : Bool) : Option (Bool × Int × Int × Bool) := (parse_parser_look.f s0_0 s0_1 s0_2 s0_3 0).bind fun bt132 => (if bt132.1 = 4 then (some (true, bt132.2.2.2.1, bt132.2.2.2.2.1, bt132.2.2.2.2.2)) else (if bt132.1 = 3 then (some (true, bt132.2.2.2.1, bt132.2.2.2.2.1, bt132.2.2.2.2.2)) else ((parse_parser_is.f s0_0 bt132.2.2.2.1 bt132.2.2.2.2.1 bt132.2.2.2.2.2 0 (⟨#[123]⟩ : ByteArray)).bind fun bt139 => (some (bt139.1, bt139.2.1, bt139.2.2.1, bt139.2.2.2)))))
set_option maxHeartbeats 8000000 in
set_option maxRecDepth 100000 in
theorem parse_parser_verbs.calls (g : Nat) (s0_0 : List (S71)) (s0_1 : Int) (s0_2 : Int) (s0_3 : Bool) (r1 : Bool) (r2 : Int) (r3 : Int) (r4 : Bool) (w0 w : World) (hI : IsS83 w0 w g s0_0 s0_1 s0_2 s0_3) (hB : Below w0.heap.size w0 w) (h : parse_parser_verbs.f s0_0 s0_1 s0_2 s0_3 = some (r1, r2, r3, r4)) :
  Calls Try.prog 110 #[.pointer (some ⟨g, 0, none⟩)] w fun e w' => e = .returned (.bool r1) ∧ IsS83 w0 w' g s0_0 r2 r3 r4 ∧ Below w0.heap.size w0 w' ∧ KeepBut w w' g none := by
 have hu71 := Try.underlying71
 have HI0 := am hI
 have HK := am (KeepBut.refl w g none)
 have HL := am hB.size
 clear hI
 have HW0 := am hB.size
 have HB := am hB
 clear hB
 unfold parse_parser_verbs.f at h
 have H := h
 clear h
 obtain ⟨⟨t132, t133, t134, t135, t136, t137⟩, A2, H⟩ := bO H
 try dsimp only at H
 by_cases c3 : t132 = 4
 ·rw [if_pos c3] at H
  have c3b0 := eT c3
  have c3b1 := nF c3
  clear c3
  simp only [Option.some.injEq, Prod.mk.injEq] at H
  obtain ⟨rfl, rfl, rfl, rfl⟩ := H
  go_enter Try.func110, Try.ntmps110
  go_wp2_with (first | ((with_reducible refine gC 67 rfl ?_); refine gL (some 5) Try.func67 #[.pointer (some ⟨g, 0, none⟩), .int .i64 0] ?_; (with_reducible refine (parse_parser_look.calls _ _ _ _ _ _ _ _ _ _ _ _ w0 _ ?side1 ?side2 A2.out).mono ?_); (case side1 => exact yI); (case side2 => exact (kLI HB)); rintro e w4 ⟨rfl, hi, hb, hk⟩; refine ⟨_, rfl, ?_⟩; replace HK := am (KeepBut.trans (kK HK) hk (.inl rfl)); replace HB := am hb; replace HI0 := am hi; (try clear hi hb hk)) | ((with_reducible refine gD 3 rfl ?_); refine bx 3 #[.int .i64 0, .string (⟨#[]⟩ : ByteArray), .int .i64 0] 71 ?_; intro gb138 hg w5 hbox hb; replace HB := am (below_step (kLI HB) hb); have BK138 := am hbox; have GW138 := am ((by rw [hg]; exact (keep_size (w := w) (g := g) (row := none) (kK HK)) : w.heap.size ≤ gb138)); have GE138 := am ((Nat.le_trans HW0.out (by rw [hg]; exact (keep_size (w := w) (g := g) (row := none) (kK HK)) : w.heap.size ≤ gb138) : w0.heap.size ≤ gb138)); replace HK := am (KeepBut.trans (kK HK) (KeepBut.of_below hb g none) (.inl rfl)); have NB0_138 := am ((by rw [hg]; exact Nat.ne_of_lt (IsS83.lt (show IsS83 w0 _ g s0_0 t135 t136 t137 from yI)) : g ≠ gb138)); have NB138_0 := am ((by rw [hg]; exact Nat.ne_of_gt (IsS83.lt (show IsS83 w0 _ g s0_0 t135 t136 t137 from yI)) : gb138 ≠ g)); replace HI0 := am (IsS83.below yI hb); clear hb hbox hg; have hnb6 := NB138_0.out; have hnc6 := NB0_138.out; obtain ⟨hcz7_0, hcz7_1, hcz7_2, hfz7_0, hfz7_1, hfz7_2⟩ := bk3 BK138.out))
  go_ret
  exact ⟨yE, yI, (kLI HB), (kK HK)⟩
 ·rw [if_neg c3] at H
  have c3b0 := eF c3
  have c3b1 := nT c3
  by_cases c8 : t132 = 3
  ·rw [if_pos c8] at H
   have c8b0 := eT c8
   have c8b1 := nF c8
   clear c8
   simp only [Option.some.injEq, Prod.mk.injEq] at H
   obtain ⟨rfl, rfl, rfl, rfl⟩ := H
   go_enter Try.func110, Try.ntmps110
   go_wp2_with (first | ((with_reducible refine gC 67 rfl ?_); refine gL (some 5) Try.func67 #[.pointer (some ⟨g, 0, none⟩), .int .i64 0] ?_; (with_reducible refine (parse_parser_look.calls _ _ _ _ _ _ _ _ _ _ _ _ w0 _ ?side1 ?side2 A2.out).mono ?_); (case side1 => exact yI); (case side2 => exact (kLI HB)); rintro e w9 ⟨rfl, hi, hb, hk⟩; refine ⟨_, rfl, ?_⟩; replace HK := am (KeepBut.trans (kK HK) hk (.inl rfl)); replace HB := am hb; replace HI0 := am hi; (try clear hi hb hk)) | ((with_reducible refine gD 3 rfl ?_); refine bx 3 #[.int .i64 0, .string (⟨#[]⟩ : ByteArray), .int .i64 0] 71 ?_; intro gb138 hg w10 hbox hb; replace HB := am (below_step (kLI HB) hb); have BK138 := am hbox; have GW138 := am ((by rw [hg]; exact (keep_size (w := w) (g := g) (row := none) (kK HK)) : w.heap.size ≤ gb138)); have GE138 := am ((Nat.le_trans HW0.out (by rw [hg]; exact (keep_size (w := w) (g := g) (row := none) (kK HK)) : w.heap.size ≤ gb138) : w0.heap.size ≤ gb138)); replace HK := am (KeepBut.trans (kK HK) (KeepBut.of_below hb g none) (.inl rfl)); have NB0_138 := am ((by rw [hg]; exact Nat.ne_of_lt (IsS83.lt (show IsS83 w0 _ g s0_0 t135 t136 t137 from yI)) : g ≠ gb138)); have NB138_0 := am ((by rw [hg]; exact Nat.ne_of_gt (IsS83.lt (show IsS83 w0 _ g s0_0 t135 t136 t137 from yI)) : gb138 ≠ g)); replace HI0 := am (IsS83.below yI hb); clear hb hbox hg; have hnb11 := NB138_0.out; have hnc11 := NB0_138.out; obtain ⟨hcz12_0, hcz12_1, hcz12_2, hfz12_0, hfz12_1, hfz12_2⟩ := bk3 BK138.out))
   go_ret
   exact ⟨yE, yI, (kLI HB), (kK HK)⟩
  ·rw [if_neg c8] at H
   have c8b0 := eF c8
   have c8b1 := nT c8
   obtain ⟨⟨t139, t140, t141, t142⟩, A13, H⟩ := bO H
   try dsimp only at H
   simp only [Option.some.injEq, Prod.mk.injEq] at H
   obtain ⟨rfl, rfl, rfl, rfl⟩ := H
   go_enter Try.func110, Try.ntmps110
   go_wp2_with (first | ((with_reducible refine gC 67 rfl ?_); refine gL (some 5) Try.func67 #[.pointer (some ⟨g, 0, none⟩), .int .i64 0] ?_; (with_reducible refine (parse_parser_look.calls _ _ _ _ _ _ _ _ _ _ _ _ w0 _ ?side1 ?side2 A2.out).mono ?_); (case side1 => exact yI); (case side2 => exact (kLI HB)); rintro e w14 ⟨rfl, hi, hb, hk⟩; refine ⟨_, rfl, ?_⟩; replace HK := am (KeepBut.trans (kK HK) hk (.inl rfl)); replace HB := am hb; replace HI0 := am hi; (try clear hi hb hk)) | ((with_reducible refine gD 3 rfl ?_); refine bx 3 #[.int .i64 0, .string (⟨#[]⟩ : ByteArray), .int .i64 0] 71 ?_; intro gb138 hg w15 hbox hb; replace HB := am (below_step (kLI HB) hb); have BK138 := am hbox; have GW138 := am ((by rw [hg]; exact (keep_size (w := w) (g := g) (row := none) (kK HK)) : w.heap.size ≤ gb138)); have GE138 := am ((Nat.le_trans HW0.out (by rw [hg]; exact (keep_size (w := w) (g := g) (row := none) (kK HK)) : w.heap.size ≤ gb138) : w0.heap.size ≤ gb138)); replace HK := am (KeepBut.trans (kK HK) (KeepBut.of_below hb g none) (.inl rfl)); have NB0_138 := am ((by rw [hg]; exact Nat.ne_of_lt (IsS83.lt (show IsS83 w0 _ g s0_0 t135 t136 t137 from yI)) : g ≠ gb138)); have NB138_0 := am ((by rw [hg]; exact Nat.ne_of_gt (IsS83.lt (show IsS83 w0 _ g s0_0 t135 t136 t137 from yI)) : gb138 ≠ g)); replace HI0 := am (IsS83.below yI hb); clear hb hbox hg; have hnb16 := NB138_0.out; have hnc16 := NB0_138.out; obtain ⟨hcz17_0, hcz17_1, hcz17_2, hfz17_0, hfz17_1, hfz17_2⟩ := bk3 BK138.out) | (go_at_call 92; (with_reducible refine (parse_parser_is.calls _ _ _ _ _ _ _ _ _ _ _ w0 _ ?side1 ?side2 A13.out).mono ?_); (case side1 => exact yI); (case side2 => exact (kLI HB)); rintro e w18 ⟨rfl, hi, hb, hk⟩; replace BK138 := am (KeepBut.blk hk (g' := gb138) (o := .cells #[.int .i64 t132, .string t133, .int .i64 t134] 71 (0, 0)) (kM BK138) NB138_0.out (by simp)); replace HK := am (KeepBut.trans (kK HK) hk (.inl rfl)); replace HB := am hb; replace HI0 := am hi; (try clear hi hb hk)))
   go_ret
   exact ⟨yE, yI, (kLI HB), (kK HK)⟩
end Go.Proofs.Ytdelccahgchadaa.P
end
section
namespace Go.Proofs.Ytdelccahgchadaa.P
open Go.RowKit Go.Proofs.YtdelccahgchadaaW.PrintWords Go.Proofs.YtdelccahgchadaaW.PrintLast Go.Proofs.YtdelccahgchadaaW.PrintMore
attribute [local go_sem] max2_int min2_int max_two min_two max_three min_three max_four min_four   
set_option linter.unusedVariables false
set_option linter.unusedSimpArgs false
def parse_parser_mark.f (s0_0 : List (S71)) (s0_1 : Int) (s0_2 : Int) (s0_3 : Bool) (a1 : ByteArray) : Option (Int × Int × Bool) := (parse_parser_is.f s0_0 s0_1 s0_2 s0_3 0 a1).bind fun bt143 => (if bt143.1 = true then (some (wrap64 (bt143.2.1 + 1), bt143.2.2.1, bt143.2.2.2)) else (some (bt143.2.1, bt143.2.2.1, true)))
set_option maxHeartbeats 8000000 in
set_option maxRecDepth 100000 in
theorem parse_parser_mark.calls (g : Nat) (s0_0 : List (S71)) (s0_1 : Int) (s0_2 : Int) (s0_3 : Bool) (a1 : ByteArray) (r1 : Int) (r2 : Int) (r3 : Bool) (w0 w : World) (hI : IsS83 w0 w g s0_0 s0_1 s0_2 s0_3) (hB : Below w0.heap.size w0 w) (h : parse_parser_mark.f s0_0 s0_1 s0_2 s0_3 a1 = some (r1, r2, r3)) :
  Calls Try.prog 94 #[.pointer (some ⟨g, 0, none⟩), .string a1] w fun e w' => e = .returned (.tuple #[]) ∧ IsS83 w0 w' g s0_0 r1 r2 r3 ∧ Below w0.heap.size w0 w' ∧ KeepBut w w' g none := by
 have HI0 := am hI
 have HK := am (KeepBut.refl w g none)
 have HL := am hB.size
 clear hI
 have HW0 := am hB.size
 have HB := am hB
 clear hB
 unfold parse_parser_mark.f at h
 have H := h
 clear h
 obtain ⟨⟨t143, t144, t145, t146⟩, A3, H⟩ := bO H
 try dsimp only at H
 by_cases c4 : t143 = true
 ·subst c4
  rw [if_pos rfl] at H
  simp only [Option.some.injEq, Prod.mk.injEq] at H
  obtain ⟨rfl, rfl, rfl⟩ := H
  go_enter Try.func94, Try.ntmps94
  go_wp2_with ((with_reducible refine gC 92 rfl ?_); refine gL (some 6) Try.func92 #[.pointer (some ⟨g, 0, none⟩), .int .i64 0, .string a1] ?_; (with_reducible refine (parse_parser_is.calls _ _ _ _ _ _ _ _ _ _ _ w0 _ ?side1 ?side2 A3.out).mono ?_); (case side1 => exact yI); (case side2 => exact (kLI HB)); rintro e w5 ⟨rfl, hi, hb, hk⟩; refine ⟨_, rfl, ?_⟩; replace HK := am (KeepBut.trans (kK HK) hk (.inl rfl)); replace HB := am hb; replace HI0 := am hi; (try clear hi hb hk); obtain ⟨ASz6_0, cSz6_0, HSz6_0, hcz6_0, hcz6_1, hcz6_2, hcz6_3, hfz6_1, hfz6_2, hfz6_3⟩ := IsS83.look HI0.out)
  first | go_end0 | ((try simp only [Exit.inBlock, Exit.then]); refine bodyPost_ret (results_none rfl _ _ _) rfl ?_)
  exact ⟨yE, yI, (kLI HB), (kK HK)⟩
 ·replace c4 := Bool.eq_false_iff.mpr c4
  subst c4
  rw [if_neg (show ¬ (false = true) by decide)] at H
  simp only [Option.some.injEq, Prod.mk.injEq] at H
  obtain ⟨rfl, rfl, rfl⟩ := H
  go_enter Try.func94, Try.ntmps94
  go_wp2_with ((with_reducible refine gC 92 rfl ?_); refine gL (some 6) Try.func92 #[.pointer (some ⟨g, 0, none⟩), .int .i64 0, .string a1] ?_; (with_reducible refine (parse_parser_is.calls _ _ _ _ _ _ _ _ _ _ _ w0 _ ?side1 ?side2 A3.out).mono ?_); (case side1 => exact yI); (case side2 => exact (kLI HB)); rintro e w7 ⟨rfl, hi, hb, hk⟩; refine ⟨_, rfl, ?_⟩; replace HK := am (KeepBut.trans (kK HK) hk (.inl rfl)); replace HB := am hb; replace HI0 := am hi; (try clear hi hb hk); obtain ⟨ASz8_0, cSz8_0, HSz8_0, hcz8_0, hcz8_1, hcz8_2, hcz8_3, hfz8_1, hfz8_2, hfz8_3⟩ := IsS83.look HI0.out)
  first | go_end0 | ((try simp only [Exit.inBlock, Exit.then]); refine bodyPost_ret (results_none rfl _ _ _) rfl ?_)
  exact ⟨yE, yI, (kLI HB), (kK HK)⟩
def parse_parser_verb.j0 (EXF : EX_F) : Nat → ByteArray → List (S25) → List (S71) → Int → Int → Bool → Int → ByteArray → ByteArray → ByteArray → Option (Int × ByteArray × ByteArray × ByteArray × List ByteArray × (List (S25)) × Int × Int × Bool)
 | 0, _, _, _, _, _, _, _, _, _, _ => none
 | k + 1, x2, x9, x1000, x1001, x1002, x1003, x155000, x155001, x155002, x155003 => (parse_parser_look.f x1000 x1001 x1002 x1003 0).bind fun bt164 => (if bt164.1 = 5 then (if (bt164.2.1.size : Int) = 1 then ((strings_Contains.f x2 bt164.2.1).bind fun t171 => (if t171 = true then (some (x155000, x155001, bt164.2.1, x155003, ([] : List ByteArray), x9, wrap64 (bt164.2.2.2.1 + 1), bt164.2.2.2.2.1, !t171)) else (some (x155000, x155001, bt164.2.1, x155003, ([] : List ByteArray), x9, wrap64 ((wrap64 (bt164.2.2.2.1 + 1)) - 1), bt164.2.2.2.2.1, !t171)))) else (some (x155000, x155001, bt164.2.1, x155003, ([] : List ByteArray), x9, wrap64 ((wrap64 (bt164.2.2.2.1 + 1)) - 1), bt164.2.2.2.2.1, true))) else (some (x155000, x155001, x155002, x155003, ([] : List ByteArray), x9, bt164.2.2.2.1, bt164.2.2.2.2.1, bt164.2.2.2.2.2)))
def parse_parser_verb.f (EXF : EX_F) (k : Nat) (s0_0 : List (S71)) (s0_1 : Int) (s0_2 : Int) (s0_3 : Bool) (a1 : Int) (a2 : ByteArray) : Option (Int × ByteArray × ByteArray × ByteArray × List ByteArray × (List (S25)) × Int × Int × Bool) := (parse_parser_look.f s0_0 s0_1 s0_2 s0_3 0).bind fun bt148 => (if bt148.2.1.toList = ([123] : List UInt8) then ((EXF s0_0 (wrap64 (bt148.2.2.2.1 + 1)) bt148.2.2.2.2.1 bt148.2.2.2.2.2).bind fun bt155 => ((parse_parser_mark.f s0_0 bt155.2.1 bt155.2.2.1 bt155.2.2.2 (⟨#[125]⟩ : ByteArray)).bind fun bt161 => (parse_parser_verb.j0 EXF k a2 bt155.1 s0_0 bt161.1 bt161.2.1 bt161.2.2 a1 bt148.2.1 (⟨#[]⟩ : ByteArray) (⟨#[]⟩ : ByteArray)))) else (parse_parser_verb.j0 EXF k a2 ([] : List (S25)) s0_0 (wrap64 (bt148.2.2.2.1 + 1)) bt148.2.2.2.2.1 bt148.2.2.2.2.2 a1 bt148.2.1 (⟨#[]⟩ : ByteArray) (⟨#[]⟩ : ByteArray)))
theorem parse_parser_verb.mono_l (EXF : EX_F) : ∀ k, (∀ y0 y1 y2 y3 y4 y5 y6 y7 y8 y9, LeO (parse_parser_verb.j0 EXF k y0 y1 y2 y3 y4 y5 y6 y7 y8 y9) (parse_parser_verb.j0 EXF (k + 1) y0 y1 y2 y3 y4 y5 y6 y7 y8 y9))
 | 0 => fun _ _ _ _ _ _ _ _ _ _ r h => by simp [parse_parser_verb.j0] at h
 | k + 1 => by
  have ih0 := parse_parser_verb.mono_l EXF k
  ·intro y0 y1 y2 y3 y4 y5 y6 y7 y8 y9
   unfold parse_parser_verb.j0
   with_reducible repeat' first
   | exact ih0 _ _ _ _ _ _ _ _ _ _
   | exact LeO.refl _
   | exact LeO.none _
   | refine LeO.ite ?_ ?_
   | refine LeO.bind ?_ (fun _ => ?_)
theorem parse_parser_verb.mono (EXF : EX_F) : ∀ a0 a1 a2 a3 a4 a5 k, LeO (parse_parser_verb.f EXF k a0 a1 a2 a3 a4 a5) (parse_parser_verb.f EXF (k + 1) a0 a1 a2 a3 a4 a5) := by
 intro a0 a1 a2 a3 a4 a5 k
 have ih0 := parse_parser_verb.mono_l EXF k
 unfold parse_parser_verb.f
 with_reducible repeat' first
   | exact ih0 _ _ _ _ _ _ _ _ _ _
   | exact LeO.refl _
   | exact LeO.none _
   | refine LeO.ite ?_ ?_
   | refine LeO.bind ?_ (fun _ => ?_)
set_option maxHeartbeats 8000000 in
set_option maxRecDepth 100000 in
theorem parse_parser_verb.calls (EXF : EX_F) (EXC : EX_C EXF) (k : Nat) (g : Nat) (s0_0 : List (S71)) (s0_1 : Int) (s0_2 : Int) (s0_3 : Bool) (a1 : Int) (a2 : ByteArray) (r1 : Int) (r2 : ByteArray) (r3 : ByteArray) (r4 : ByteArray) (r5 : List ByteArray) (r6 : List (S25)) (r7 : Int) (r8 : Int) (r9 : Bool) (w0 w : World) (hI : IsS83 w0 w g s0_0 s0_1 s0_2 s0_3) (hB : Below w0.heap.size w0 w) (h : parse_parser_verb.f EXF k s0_0 s0_1 s0_2 s0_3 a1 a2 = some (r1, r2, r3, r4, r5, r6, r7, r8, r9)) :
  Calls Try.prog 111 #[.pointer (some ⟨g, 0, none⟩), .int .i64 a1, .string a2] w fun e w' => ∃ v4_ v5_ : Value, e = .returned (.tuple #[.agg #[.int .i64 r1, .string r2, .string r3, .string r4, v4_], v5_]) ∧ Kd.R Kd.string 9 w' w.heap.size (fun k_ => (w.heap.size ≤ k_)) v4_ r5 ∧ Kd.N k25 25 w' w.heap.size (fun k_ => (w.heap.size ≤ k_) ∧ some k_ ≠ (v4_ : Value).ownBlock) v5_ r6 ∧ IsS83 w0 w' g s0_0 r7 r8 r9 ∧ Below w0.heap.size w0 w' ∧ KeepBut w w' g none := by
 have hu25 := Try.underlying25
 have hu71 := Try.underlying71
 have HI0 := am hI
 have HK := am (KeepBut.refl w g none)
 have HL := am hB.size
 clear hI
 have HW0 := am hB.size
 have HB := am hB
 clear hB
 unfold parse_parser_verb.f at h
 have H := h
 clear h
 obtain ⟨⟨t148, t149, t150, t151, t152, t153⟩, A4, H⟩ := bO H
 try dsimp only at H
 have HC5 := am H
 clear H
 go_enter Try.func111, Try.ntmps111
 go_upto_if 25 with (first | ((with_reducible refine gD 6 rfl ?_); refine bx 6 #[.int .i64 0, .string (⟨#[]⟩ : ByteArray), .string (⟨#[]⟩ : ByteArray), .string (⟨#[]⟩ : ByteArray), .slice none 0 0] 25 ?_; intro gb147 hg w6 hbox hb; replace HB := am (below_step (kLI HB) hb); have BK147 := am hbox; have GW147 := am ((by rw [hg]; exact (keep_size (w := w) (g := g) (row := none) (kK HK)) : w.heap.size ≤ gb147)); have GE147 := am ((Nat.le_trans HW0.out (by rw [hg]; exact (keep_size (w := w) (g := g) (row := none) (kK HK)) : w.heap.size ≤ gb147) : w0.heap.size ≤ gb147)); replace HK := am (KeepBut.trans (kK HK) (KeepBut.of_below hb g none) (.inl rfl)); have NB0_147 := am ((by rw [hg]; exact Nat.ne_of_lt (IsS83.lt (show IsS83 w0 _ g s0_0 s0_1 s0_2 s0_3 from yI)) : g ≠ gb147)); have NB147_0 := am ((by rw [hg]; exact Nat.ne_of_gt (IsS83.lt (show IsS83 w0 _ g s0_0 s0_1 s0_2 s0_3 from yI)) : gb147 ≠ g)); replace HI0 := am (IsS83.below yI hb); clear hb hbox hg) | ((with_reducible refine gC 67 rfl ?_); refine gL (some 13) Try.func67 #[.pointer (some ⟨g, 0, none⟩), .int .i64 0] ?_; (with_reducible refine (parse_parser_look.calls _ _ _ _ _ _ _ _ _ _ _ _ w0 _ ?side1 ?side2 A4.out).mono ?_); (case side1 => exact yI); (case side2 => exact (kLI HB)); rintro e w7 ⟨rfl, hi, hb, hk⟩; refine ⟨_, rfl, ?_⟩; replace BK147 := am (KeepBut.blk hk (kB BK147) NB147_0.out (by simp)); replace HK := am (KeepBut.trans (kK HK) hk (.inl rfl)); replace HB := am hb; replace HI0 := am hi; (try clear hi hb hk)) | ((with_reducible refine gD 8 rfl ?_); refine bx 8 #[.int .i64 0, .string (⟨#[]⟩ : ByteArray), .string (⟨#[]⟩ : ByteArray), .string (⟨#[]⟩ : ByteArray), .slice none 0 0] 25 ?_; intro gb154 hg w8 hbox hb; replace HB := am (below_step (kLI HB) hb); have BK154 := am hbox; have GW154 := am ((by rw [hg]; exact (keep_size (w := w) (g := g) (row := none) (kK HK)) : w.heap.size ≤ gb154)); have GE154 := am ((Nat.le_trans HW0.out (by rw [hg]; exact (keep_size (w := w) (g := g) (row := none) (kK HK)) : w.heap.size ≤ gb154) : w0.heap.size ≤ gb154)); replace HK := am (KeepBut.trans (kK HK) (KeepBut.of_below hb g none) (.inl rfl)); have NB147_154 := am (neL hg (kB BK147)); have NB154_147 := am (neR hg (kB BK147)); replace BK147 := am (bB (kB BK147) hb); have NB0_154 := am ((by rw [hg]; exact Nat.ne_of_lt (IsS83.lt (show IsS83 w0 _ g s0_0 t151 t152 t153 from yI)) : g ≠ gb154)); have NB154_0 := am ((by rw [hg]; exact Nat.ne_of_gt (IsS83.lt (show IsS83 w0 _ g s0_0 t151 t152 t153 from yI)) : gb154 ≠ g)); replace HI0 := am (IsS83.below yI hb); clear hb hbox hg; have hnb9 := NB154_147.out; have hnc9 := NB147_154.out; have hnb10 := NB154_0.out; have hnc10 := NB0_154.out; obtain ⟨hcz11_0, hcz11_1, hcz11_2, hcz11_3, hcz11_4, hfz11_0, hfz11_1, hfz11_2, hfz11_3, hfz11_4⟩ := bk5 BK154.out; obtain ⟨ASz12_0, cSz12_0, HSz12_0, hcz12_0, hcz12_1, hcz12_2, hcz12_3, hfz12_1, hfz12_2, hfz12_3⟩ := IsS83.look HI0.out))
 (try simp only [Act.put, zT, z0, zS])
 go_cut [9] (fun v9 wc => ∃ (kq : Nat) (x9_4 : List (S25)) (x1001_4 : Int) (x1002_4 : Int) (x1003_4 : Bool), Aside0 (parse_parser_verb.j0 EXF kq a2 x9_4 s0_0 x1001_4 x1002_4 x1003_4 a1 t149 (⟨#[]⟩ : ByteArray) (⟨#[]⟩ : ByteArray) = some (r1, r2, r3, r4, r5, r6, r7, r8, r9)) ∧ Aside0 (kq ≤ k) ∧ Aside0 (Kd.N k25 25 wc w.heap.size (fun k_ => (w.heap.size ≤ k_) ∧ k_ ≠ gb147 ∧ k_ ≠ gb154 ∧ k_ ≠ g) v9 x9_4) ∧ Aside0 (wc.heap[gb147]? = some (.cells #[.int .i64 0, .string (⟨#[]⟩ : ByteArray), .string (⟨#[]⟩ : ByteArray), .string (⟨#[]⟩ : ByteArray), (.slice none 0 0)] 25 (0, 0))) ∧ Aside0 (wc.heap[gb154]? = some (.cells #[.int .i64 a1, .string t149, .string (⟨#[]⟩ : ByteArray), .string (⟨#[]⟩ : ByteArray), (.slice none 0 0)] 25 (0, 0))) ∧ Aside0 (IsS83 w0 wc g s0_0 x1001_4 x1002_4 x1003_4) ∧ Aside0 (KeepBut w wc g none) ∧ Aside0 (Below w0.heap.size w0 wc))
 case first =>
  have H := HC5.out
  clear HC5
  by_cases c13 : t149.toList = ([123] : List UInt8)
  ·rw [if_pos c13] at H
   have c13b0 := eT c13
   have c13b1 := nF c13
   clear c13
   (first | rw [c13b0] | (simp only [i64_w, i32_w]; rw [c13b0]) | skip)
   obtain ⟨⟨t155, t158, t159, t160⟩, A14, H⟩ := bO H
   try dsimp only at H
   obtain ⟨⟨t161, t162, t163⟩, A15, H⟩ := bO H
   try dsimp only at H
   have H' := am H
   clear H
   go_wp2_with (first | ((with_reducible refine gC 93 rfl ?_); refine gL (some 27) Try.func93 #[.pointer (some ⟨g, 0, none⟩)] ?_; (with_reducible refine (EXC.out _ _ _ _ _ _ _ _ _ w0 _ ?side1 ?side2 A14.out).mono ?_); (case side1 => exact yI); (case side2 => exact (kLI HB)); rintro e w16 ⟨v156, rfl, ho0, hi, hb, hk⟩; refine ⟨_, rfl, ?_⟩; have HO157 := am (Kd.N_lower (Kd.N_mono (ok' := fun k_ => (w.heap.size ≤ k_) ∧ k_ ≠ gb147 ∧ k_ ≠ gb154 ∧ k_ ≠ g) ho0 (fun k_ hk_ => ⟨(Nat.le_trans (keep_size (w := w) (g := g) (row := none) (kK HK)) hk_), (fB BK147 k_ hk_), (fB BK154 k_ hk_), (IsS83.fresh yI k_ hk_)⟩)) (keep_size (w := w) (g := g) (row := none) (kK HK))); replace BK147 := am (KeepBut.blk hk (g' := gb147) (o := .cells #[.int .i64 0, .string (⟨#[]⟩ : ByteArray), .string (⟨#[]⟩ : ByteArray), .string (⟨#[]⟩ : ByteArray), .slice none 0 0] 25 (0, 0)) (kM BK147) NB147_0.out (by simp)); replace BK154 := am (KeepBut.blk hk (g' := gb154) (o := .cells #[.int .i64 a1, .string t149, .string (⟨#[]⟩ : ByteArray), .string (⟨#[]⟩ : ByteArray), .slice none 0 0] 25 (0, 0)) (kM BK154) NB154_0.out (by simp)); replace HK := am (KeepBut.trans (kK HK) hk (.inl rfl)); replace HB := am hb; replace HI0 := am hi; (try clear ho0 hi hb hk)) | ((with_reducible refine gC 94 rfl ?_); refine gL (some 29) Try.func94 #[.pointer (some ⟨g, 0, none⟩), .string (⟨#[125]⟩ : ByteArray)] ?_; (with_reducible refine (parse_parser_mark.calls _ _ _ _ _ _ _ _ _ w0 _ ?side1 ?side2 A15.out).mono ?_); (case side1 => exact yI); (case side2 => exact (kLI HB)); rintro e w17 ⟨rfl, hi, hb, hk⟩; refine ⟨_, rfl, ?_⟩; replace BK147 := am (KeepBut.blk hk (kB BK147) NB147_0.out (by simp)); replace BK154 := am (KeepBut.blk hk (kB BK154) NB154_0.out (by simp)); replace HO157 := am (Kd.N_mono (Kd.N_keep (Kd.N_mono (ok := fun k_ => (((w.heap.size ≤ k_)) ∧ (k_ ≠ gb147 ∧ (k_ ≠ gb154 ∧ k_ ≠ g)))) (nB HO157) (fun k_ hk_ => (⟨hk_, hk_.2.2.2⟩ : _ ∧ k_ ≠ g))) hk (fun _ h => h.2)) (fun _ h => h.1)); replace HK := am (KeepBut.trans (kK HK) hk (.inl rfl)); replace HB := am hb; replace HI0 := am hi; (try clear hi hb hk)))
   go_meet
   case rel => exact ⟨_, (t155), (t161), (t162), (t163), H', ⟨yO⟩, ⟨nB HO157⟩, ⟨kB BK147⟩, ⟨kB BK154⟩, ⟨yI⟩, ⟨(kK HK)⟩, ⟨(kLI HB)⟩⟩
  ·rw [if_neg c13] at H
   have c13b0 := eF c13
   have c13b1 := nT c13
   (first | rw [c13b0] | (simp only [i64_w, i32_w]; rw [c13b0]) | skip)
   have H' := am H
   clear H
   go_wp2
   go_meet
   case rel => exact ⟨_, (([] : List (S25))), (wrap64 (t151 + 1)), (t152), (t153), H', ⟨yO⟩, ⟨yZ⟩, ⟨kM BK147⟩, ⟨kM BK154⟩, ⟨yI⟩, ⟨(kK HK)⟩, ⟨(kLI HB)⟩⟩
 case rest =>
  clear HC5
  try clear c1
  try clear p2
  try clear c6
  try clear p6
  try clear c9
  try clear c10
  try clear c11
  try clear c13
  try clear c13b0
  try clear c13b1
  try clear hcz11_0 hcz11_1 hcz11_2 hcz11_3 hcz11_4 hfz11_0 hfz11_1 hfz11_2 hfz11_3 hfz11_4
  try clear hcz12_0 hcz12_1 hcz12_2 hcz12_3 hfz12_1 hfz12_2 hfz12_3
  obtain ⟨kq, x9_4, x1001_4, x1002_4, x1003_4, HA, HJ4, HO_9, BK147, BK154, HI0, HK, HB⟩ := hcut
  cases kq with
  | zero => exact absurd HA.out (by simp [parse_parser_verb.j0])
  | succ kj4 =>
   have H := HA.out
   clear HA
   simp only [parse_parser_verb.j0] at H
   obtain ⟨⟨t164, t165, t166, t167, t168, t169⟩, A18, H⟩ := bO H
   try dsimp only at H
   by_cases c19 : t164 = 5
   ·rw [if_pos c19] at H
    have c19b0 := eT c19
    have c19b1 := nF c19
    clear c19
    by_cases c20 : (t165.size : Int) = 1
    ·rw [if_pos c20] at H
     have c20b0 := eT c20
     have c20b1 := nF c20
     clear c20
     obtain ⟨t171, A21, H⟩ := bO H
     try dsimp only at H
     by_cases c22 : t171 = true
     ·subst c22
      rw [if_pos rfl] at H
      simp only [Bool.not_true, Bool.not_false] at H
      simp only [Option.some.injEq, Prod.mk.injEq] at H
      obtain ⟨rfl, rfl, rfl, rfl, rfl, rfl, rfl, rfl, rfl⟩ := H
      go_wp2_with (first | ((with_reducible refine gC 67 rfl ?_); refine gL (some 31) Try.func67 #[.pointer (some ⟨g, 0, none⟩), .int .i64 0] ?_; (with_reducible refine (parse_parser_look.calls _ _ _ _ _ _ _ _ _ _ _ _ w0 _ ?side1 ?side2 A18.out).mono ?_); (case side1 => exact yI); (case side2 => exact (kLI HB)); rintro e w23 ⟨rfl, hi, hb, hk⟩; refine ⟨_, rfl, ?_⟩; replace HO_9 := am (Kd.N_mono (Kd.N_keep (Kd.N_mono (ok := fun k_ => (((w.heap.size ≤ k_)) ∧ (k_ ≠ gb147 ∧ (k_ ≠ gb154 ∧ k_ ≠ g)))) (nB HO_9) (fun k_ hk_ => (⟨hk_, hk_.2.2.2⟩ : _ ∧ k_ ≠ g))) hk (fun _ h => h.2)) (fun _ h => h.1)); replace BK147 := am (KeepBut.blk hk (kB BK147) NB147_0.out (by simp)); replace BK154 := am (KeepBut.blk hk (kB BK154) NB154_0.out (by simp)); replace HK := am (KeepBut.trans (kK HK) hk (.inl rfl)); replace HB := am hb; replace HI0 := am hi; (try clear hi hb hk)) | ((with_reducible refine gD 10 rfl ?_); refine bx 10 #[.int .i64 0, .string (⟨#[]⟩ : ByteArray), .int .i64 0] 71 ?_; intro gb170 hg w24 hbox hb; replace HO_9 := am (Kd.N_below (Kd.N_elderB (nB HO_9) gb170 (Nat.le_of_eq hg.symm)) hb); replace HB := am (below_step (kLI HB) hb); have BK170 := am hbox; have GW170 := am ((by rw [hg]; exact (keep_size (w := w) (g := g) (row := none) (kK HK)) : w.heap.size ≤ gb170)); have GE170 := am ((Nat.le_trans HW0.out (by rw [hg]; exact (keep_size (w := w) (g := g) (row := none) (kK HK)) : w.heap.size ≤ gb170) : w0.heap.size ≤ gb170)); replace HK := am (KeepBut.trans (kK HK) (KeepBut.of_below hb g none) (.inl rfl)); have NB147_170 := am (neL hg (kB BK147)); have NB170_147 := am (neR hg (kB BK147)); replace BK147 := am (bB (kB BK147) hb); have NB154_170 := am (neL hg (kB BK154)); have NB170_154 := am (neR hg (kB BK154)); replace BK154 := am (bB (kB BK154) hb); have NB0_170 := am ((by rw [hg]; exact Nat.ne_of_lt (IsS83.lt (show IsS83 w0 _ g s0_0 t167 t168 t169 from yI)) : g ≠ gb170)); have NB170_0 := am ((by rw [hg]; exact Nat.ne_of_gt (IsS83.lt (show IsS83 w0 _ g s0_0 t167 t168 t169 from yI)) : gb170 ≠ g)); replace HI0 := am (IsS83.below yI hb); clear hb hbox hg; have hnb25 := NB170_147.out; have hnc25 := NB147_170.out; have hnb26 := NB170_154.out; have hnc26 := NB154_170.out; have hnb27 := NB170_0.out; have hnc27 := NB0_170.out; obtain ⟨hcz28_0, hcz28_1, hcz28_2, hfz28_0, hfz28_1, hfz28_2⟩ := bk3 BK170.out) | (go_at_call 83; (with_reducible refine (strings_Contains.calls _ _ _ _ A21.out).mono ?_); rintro e w' ⟨rfl, ⟨nd, rfl⟩⟩; obtain ⟨ASz29_0, cSz29_0, HSz29_0, hcz29_0, hcz29_1, hcz29_2, hcz29_3, hfz29_1, hfz29_2, hfz29_3⟩ := IsS83.look HI0.out; have hnb30 := NB154_147.out; have hnc30 := NB147_154.out; have hnb31 := NB154_0.out; have hnc31 := NB0_154.out; obtain ⟨hcz32_0, hcz32_1, hcz32_2, hcz32_3, hcz32_4, hfz32_0, hfz32_1, hfz32_2, hfz32_3, hfz32_4⟩ := bk5 BK154.out; have hnb33 := NB147_0.out; have hnc33 := NB0_147.out; obtain ⟨hcz34_0, hcz34_1, hcz34_2, hcz34_3, hcz34_4, hfz34_0, hfz34_1, hfz34_2, hfz34_3, hfz34_4⟩ := bk5 BK147.out))
      refine bodyPost_ret (results_ct rfl _ _ gb147 25 #[.int .i64 a1, .string t149, .string t165, .string (⟨#[]⟩ : ByteArray), .slice none 0 0] (0, 0) _ rfl (kM BK147) Try.underlying25 rfl (by kernel_rfl)) rfl ?_
      exact ⟨_, _, yE, by first | exact Kd.R_nil _ _ _ _ _ | exact Kd.N_nil _ _ _ _ _ | exact Kd.V_nil _ _ _ _ _ | exact Kd.Q_nil _ _ _ _ _ | exact Kd.S_nil _ _ _ _ _, by (with_reducible repeat (first | apply Kd.N_alloc | apply Kd.N_drewN | apply Kd.N_drew)); exact Kd.N_mono (Kd.N_far (p := ⟨gb147, 4, none⟩) (Kd.N_far (p := ⟨gb147, 3, none⟩) (Kd.N_far (p := ⟨gb147, 2, none⟩) (Kd.N_far (p := ⟨gb147, 1, none⟩) (Kd.N_far (p := ⟨gb147, 0, none⟩) (Kd.N_far (p := ⟨g, 1, none⟩) (Kd.N_far (p := ⟨gb154, 2, none⟩) (Kd.N_far (p := ⟨g, 3, none⟩) (Kd.N_drewN (Kd.N_far (p := ⟨gb170, 2, none⟩) (Kd.N_far (p := ⟨gb170, 1, none⟩) (Kd.N_far (p := ⟨gb170, 0, none⟩) (Kd.N_mono (Kd.N_mono (Kd.N_mono (Kd.N_mono HO_9.out (fun k_ hk => (⟨hk, hk.2⟩ : _ ∧ k_ ≠ gb170))) (fun k_ hk => (⟨hk, hk.1.1.2.2.2⟩ : _ ∧ k_ ≠ g))) (fun k_ hk => (⟨hk, hk.1.1.1.2.2.1⟩ : _ ∧ k_ ≠ gb154))) (fun k_ hk => (⟨hk, hk.1.1.1.1.2.1⟩ : _ ∧ k_ ≠ gb147))) (fun _ hk => hk.1.1.1.2) (.int .i64 t164)) (fun _ hk => hk.1.1.1.2) (.string t165)) (fun _ hk => hk.1.1.1.2) (.int .i64 t166)) nd) (fun _ hk => hk.1.1.2) (.bool false)) (fun _ hk => hk.1.2) (.string t165)) (fun _ hk => hk.1.1.2) (.int .i64 (wrap64 (t167 + 1)))) (fun _ hk => hk.2) (.int .i64 a1)) (fun _ hk => hk.2) (.string t149)) (fun _ hk => hk.2) (.string t165)) (fun _ hk => hk.2) (.string (⟨#[]⟩ : ByteArray))) (fun _ hk => hk.2) (.slice none 0 0)) (fun _ hk => ⟨hk.1.1.1.1.1.1, (by simp [Value.ownBlock])⟩), yI, (kLI HB), (kK HK)⟩
     ·replace c22 := Bool.eq_false_iff.mpr c22
      subst c22
      rw [if_neg (show ¬ (false = true) by decide)] at H
      simp only [Bool.not_true, Bool.not_false] at H
      simp only [Option.some.injEq, Prod.mk.injEq] at H
      obtain ⟨rfl, rfl, rfl, rfl, rfl, rfl, rfl, rfl, rfl⟩ := H
      go_wp2_with (first | ((with_reducible refine gC 67 rfl ?_); refine gL (some 31) Try.func67 #[.pointer (some ⟨g, 0, none⟩), .int .i64 0] ?_; (with_reducible refine (parse_parser_look.calls _ _ _ _ _ _ _ _ _ _ _ _ w0 _ ?side1 ?side2 A18.out).mono ?_); (case side1 => exact yI); (case side2 => exact (kLI HB)); rintro e w35 ⟨rfl, hi, hb, hk⟩; refine ⟨_, rfl, ?_⟩; replace HO_9 := am (Kd.N_mono (Kd.N_keep (Kd.N_mono (ok := fun k_ => (((w.heap.size ≤ k_)) ∧ (k_ ≠ gb147 ∧ (k_ ≠ gb154 ∧ k_ ≠ g)))) (nB HO_9) (fun k_ hk_ => (⟨hk_, hk_.2.2.2⟩ : _ ∧ k_ ≠ g))) hk (fun _ h => h.2)) (fun _ h => h.1)); replace BK147 := am (KeepBut.blk hk (kB BK147) NB147_0.out (by simp)); replace BK154 := am (KeepBut.blk hk (kB BK154) NB154_0.out (by simp)); replace HK := am (KeepBut.trans (kK HK) hk (.inl rfl)); replace HB := am hb; replace HI0 := am hi; (try clear hi hb hk)) | ((with_reducible refine gD 10 rfl ?_); refine bx 10 #[.int .i64 0, .string (⟨#[]⟩ : ByteArray), .int .i64 0] 71 ?_; intro gb170 hg w36 hbox hb; replace HO_9 := am (Kd.N_below (Kd.N_elderB (nB HO_9) gb170 (Nat.le_of_eq hg.symm)) hb); replace HB := am (below_step (kLI HB) hb); have BK170 := am hbox; have GW170 := am ((by rw [hg]; exact (keep_size (w := w) (g := g) (row := none) (kK HK)) : w.heap.size ≤ gb170)); have GE170 := am ((Nat.le_trans HW0.out (by rw [hg]; exact (keep_size (w := w) (g := g) (row := none) (kK HK)) : w.heap.size ≤ gb170) : w0.heap.size ≤ gb170)); replace HK := am (KeepBut.trans (kK HK) (KeepBut.of_below hb g none) (.inl rfl)); have NB147_170 := am (neL hg (kB BK147)); have NB170_147 := am (neR hg (kB BK147)); replace BK147 := am (bB (kB BK147) hb); have NB154_170 := am (neL hg (kB BK154)); have NB170_154 := am (neR hg (kB BK154)); replace BK154 := am (bB (kB BK154) hb); have NB0_170 := am ((by rw [hg]; exact Nat.ne_of_lt (IsS83.lt (show IsS83 w0 _ g s0_0 t167 t168 t169 from yI)) : g ≠ gb170)); have NB170_0 := am ((by rw [hg]; exact Nat.ne_of_gt (IsS83.lt (show IsS83 w0 _ g s0_0 t167 t168 t169 from yI)) : gb170 ≠ g)); replace HI0 := am (IsS83.below yI hb); clear hb hbox hg; have hnb37 := NB170_147.out; have hnc37 := NB147_170.out; have hnb38 := NB170_154.out; have hnc38 := NB154_170.out; have hnb39 := NB170_0.out; have hnc39 := NB0_170.out; obtain ⟨hcz40_0, hcz40_1, hcz40_2, hfz40_0, hfz40_1, hfz40_2⟩ := bk3 BK170.out) | (go_at_call 83; (with_reducible refine (strings_Contains.calls _ _ _ _ A21.out).mono ?_); rintro e w' ⟨rfl, ⟨nd, rfl⟩⟩; obtain ⟨ASz41_0, cSz41_0, HSz41_0, hcz41_0, hcz41_1, hcz41_2, hcz41_3, hfz41_1, hfz41_2, hfz41_3⟩ := IsS83.look HI0.out; have hnb42 := NB154_147.out; have hnc42 := NB147_154.out; have hnb43 := NB154_0.out; have hnc43 := NB0_154.out; obtain ⟨hcz44_0, hcz44_1, hcz44_2, hcz44_3, hcz44_4, hfz44_0, hfz44_1, hfz44_2, hfz44_3, hfz44_4⟩ := bk5 BK154.out; have hnb45 := NB147_0.out; have hnc45 := NB0_147.out; obtain ⟨hcz46_0, hcz46_1, hcz46_2, hcz46_3, hcz46_4, hfz46_0, hfz46_1, hfz46_2, hfz46_3, hfz46_4⟩ := bk5 BK147.out))
      refine bodyPost_ret (results_ct rfl _ _ gb147 25 #[.int .i64 a1, .string t149, .string t165, .string (⟨#[]⟩ : ByteArray), .slice none 0 0] (0, 0) _ rfl (kM BK147) Try.underlying25 rfl (by kernel_rfl)) rfl ?_
      exact ⟨_, _, yE, by first | exact Kd.R_nil _ _ _ _ _ | exact Kd.N_nil _ _ _ _ _ | exact Kd.V_nil _ _ _ _ _ | exact Kd.Q_nil _ _ _ _ _ | exact Kd.S_nil _ _ _ _ _, by (with_reducible repeat (first | apply Kd.N_alloc | apply Kd.N_drewN | apply Kd.N_drew)); exact Kd.N_mono (Kd.N_far (p := ⟨gb147, 4, none⟩) (Kd.N_far (p := ⟨gb147, 3, none⟩) (Kd.N_far (p := ⟨gb147, 2, none⟩) (Kd.N_far (p := ⟨gb147, 1, none⟩) (Kd.N_far (p := ⟨gb147, 0, none⟩) (Kd.N_far (p := ⟨g, 1, none⟩) (Kd.N_far (p := ⟨g, 1, none⟩) (Kd.N_far (p := ⟨gb154, 2, none⟩) (Kd.N_far (p := ⟨g, 3, none⟩) (Kd.N_drewN (Kd.N_far (p := ⟨gb170, 2, none⟩) (Kd.N_far (p := ⟨gb170, 1, none⟩) (Kd.N_far (p := ⟨gb170, 0, none⟩) (Kd.N_mono (Kd.N_mono (Kd.N_mono (Kd.N_mono HO_9.out (fun k_ hk => (⟨hk, hk.2⟩ : _ ∧ k_ ≠ gb170))) (fun k_ hk => (⟨hk, hk.1.1.2.2.2⟩ : _ ∧ k_ ≠ g))) (fun k_ hk => (⟨hk, hk.1.1.1.2.2.1⟩ : _ ∧ k_ ≠ gb154))) (fun k_ hk => (⟨hk, hk.1.1.1.1.2.1⟩ : _ ∧ k_ ≠ gb147))) (fun _ hk => hk.1.1.1.2) (.int .i64 t164)) (fun _ hk => hk.1.1.1.2) (.string t165)) (fun _ hk => hk.1.1.1.2) (.int .i64 t166)) nd) (fun _ hk => hk.1.1.2) (.bool true)) (fun _ hk => hk.1.2) (.string t165)) (fun _ hk => hk.1.1.2) (.int .i64 (wrap64 (t167 + 1)))) (fun _ hk => hk.1.1.2) (.int .i64 (wrap64 ((wrap64 (t167 + 1)) - 1)))) (fun _ hk => hk.2) (.int .i64 a1)) (fun _ hk => hk.2) (.string t149)) (fun _ hk => hk.2) (.string t165)) (fun _ hk => hk.2) (.string (⟨#[]⟩ : ByteArray))) (fun _ hk => hk.2) (.slice none 0 0)) (fun _ hk => ⟨hk.1.1.1.1.1.1, (by simp [Value.ownBlock])⟩), yI, (kLI HB), (kK HK)⟩
    ·rw [if_neg c20] at H
     have c20b0 := eF c20
     have c20b1 := nT c20
     simp only [Option.some.injEq, Prod.mk.injEq] at H
     obtain ⟨rfl, rfl, rfl, rfl, rfl, rfl, rfl, rfl, rfl⟩ := H
     go_wp2_with (first | ((with_reducible refine gC 67 rfl ?_); refine gL (some 31) Try.func67 #[.pointer (some ⟨g, 0, none⟩), .int .i64 0] ?_; (with_reducible refine (parse_parser_look.calls _ _ _ _ _ _ _ _ _ _ _ _ w0 _ ?side1 ?side2 A18.out).mono ?_); (case side1 => exact yI); (case side2 => exact (kLI HB)); rintro e w47 ⟨rfl, hi, hb, hk⟩; refine ⟨_, rfl, ?_⟩; replace HO_9 := am (Kd.N_mono (Kd.N_keep (Kd.N_mono (ok := fun k_ => (((w.heap.size ≤ k_)) ∧ (k_ ≠ gb147 ∧ (k_ ≠ gb154 ∧ k_ ≠ g)))) (nB HO_9) (fun k_ hk_ => (⟨hk_, hk_.2.2.2⟩ : _ ∧ k_ ≠ g))) hk (fun _ h => h.2)) (fun _ h => h.1)); replace BK147 := am (KeepBut.blk hk (kB BK147) NB147_0.out (by simp)); replace BK154 := am (KeepBut.blk hk (kB BK154) NB154_0.out (by simp)); replace HK := am (KeepBut.trans (kK HK) hk (.inl rfl)); replace HB := am hb; replace HI0 := am hi; (try clear hi hb hk)) | ((with_reducible refine gD 10 rfl ?_); refine bx 10 #[.int .i64 0, .string (⟨#[]⟩ : ByteArray), .int .i64 0] 71 ?_; intro gb170 hg w48 hbox hb; replace HO_9 := am (Kd.N_below (Kd.N_elderB (nB HO_9) gb170 (Nat.le_of_eq hg.symm)) hb); replace HB := am (below_step (kLI HB) hb); have BK170 := am hbox; have GW170 := am ((by rw [hg]; exact (keep_size (w := w) (g := g) (row := none) (kK HK)) : w.heap.size ≤ gb170)); have GE170 := am ((Nat.le_trans HW0.out (by rw [hg]; exact (keep_size (w := w) (g := g) (row := none) (kK HK)) : w.heap.size ≤ gb170) : w0.heap.size ≤ gb170)); replace HK := am (KeepBut.trans (kK HK) (KeepBut.of_below hb g none) (.inl rfl)); have NB147_170 := am (neL hg (kB BK147)); have NB170_147 := am (neR hg (kB BK147)); replace BK147 := am (bB (kB BK147) hb); have NB154_170 := am (neL hg (kB BK154)); have NB170_154 := am (neR hg (kB BK154)); replace BK154 := am (bB (kB BK154) hb); have NB0_170 := am ((by rw [hg]; exact Nat.ne_of_lt (IsS83.lt (show IsS83 w0 _ g s0_0 t167 t168 t169 from yI)) : g ≠ gb170)); have NB170_0 := am ((by rw [hg]; exact Nat.ne_of_gt (IsS83.lt (show IsS83 w0 _ g s0_0 t167 t168 t169 from yI)) : gb170 ≠ g)); replace HI0 := am (IsS83.below yI hb); clear hb hbox hg; have hnb49 := NB170_147.out; have hnc49 := NB147_170.out; have hnb50 := NB170_154.out; have hnc50 := NB154_170.out; have hnb51 := NB170_0.out; have hnc51 := NB0_170.out; obtain ⟨hcz52_0, hcz52_1, hcz52_2, hfz52_0, hfz52_1, hfz52_2⟩ := bk3 BK170.out; obtain ⟨ASz53_0, cSz53_0, HSz53_0, hcz53_0, hcz53_1, hcz53_2, hcz53_3, hfz53_1, hfz53_2, hfz53_3⟩ := IsS83.look HI0.out; have hnb54 := NB154_147.out; have hnc54 := NB147_154.out; have hnb55 := NB154_0.out; have hnc55 := NB0_154.out; obtain ⟨hcz56_0, hcz56_1, hcz56_2, hcz56_3, hcz56_4, hfz56_0, hfz56_1, hfz56_2, hfz56_3, hfz56_4⟩ := bk5 BK154.out; have hnb57 := NB147_0.out; have hnc57 := NB0_147.out; obtain ⟨hcz58_0, hcz58_1, hcz58_2, hcz58_3, hcz58_4, hfz58_0, hfz58_1, hfz58_2, hfz58_3, hfz58_4⟩ := bk5 BK147.out))
     refine bodyPost_ret (results_ct rfl _ _ gb147 25 #[.int .i64 a1, .string t149, .string t165, .string (⟨#[]⟩ : ByteArray), .slice none 0 0] (0, 0) _ rfl (kM BK147) Try.underlying25 rfl (by kernel_rfl)) rfl ?_
     exact ⟨_, _, yE, by first | exact Kd.R_nil _ _ _ _ _ | exact Kd.N_nil _ _ _ _ _ | exact Kd.V_nil _ _ _ _ _ | exact Kd.Q_nil _ _ _ _ _ | exact Kd.S_nil _ _ _ _ _, by (with_reducible repeat (first | apply Kd.N_alloc | apply Kd.N_drewN | apply Kd.N_drew)); exact Kd.N_mono (Kd.N_far (p := ⟨gb147, 4, none⟩) (Kd.N_far (p := ⟨gb147, 3, none⟩) (Kd.N_far (p := ⟨gb147, 2, none⟩) (Kd.N_far (p := ⟨gb147, 1, none⟩) (Kd.N_far (p := ⟨gb147, 0, none⟩) (Kd.N_far (p := ⟨g, 1, none⟩) (Kd.N_far (p := ⟨g, 1, none⟩) (Kd.N_far (p := ⟨gb154, 2, none⟩) (Kd.N_far (p := ⟨g, 3, none⟩) (Kd.N_far (p := ⟨gb170, 2, none⟩) (Kd.N_far (p := ⟨gb170, 1, none⟩) (Kd.N_far (p := ⟨gb170, 0, none⟩) (Kd.N_mono (Kd.N_mono (Kd.N_mono (Kd.N_mono HO_9.out (fun k_ hk => (⟨hk, hk.2⟩ : _ ∧ k_ ≠ gb170))) (fun k_ hk => (⟨hk, hk.1.1.2.2.2⟩ : _ ∧ k_ ≠ g))) (fun k_ hk => (⟨hk, hk.1.1.1.2.2.1⟩ : _ ∧ k_ ≠ gb154))) (fun k_ hk => (⟨hk, hk.1.1.1.1.2.1⟩ : _ ∧ k_ ≠ gb147))) (fun _ hk => hk.1.1.1.2) (.int .i64 t164)) (fun _ hk => hk.1.1.1.2) (.string t165)) (fun _ hk => hk.1.1.1.2) (.int .i64 t166)) (fun _ hk => hk.1.1.2) (.bool true)) (fun _ hk => hk.1.2) (.string t165)) (fun _ hk => hk.1.1.2) (.int .i64 (wrap64 (t167 + 1)))) (fun _ hk => hk.1.1.2) (.int .i64 (wrap64 ((wrap64 (t167 + 1)) - 1)))) (fun _ hk => hk.2) (.int .i64 a1)) (fun _ hk => hk.2) (.string t149)) (fun _ hk => hk.2) (.string t165)) (fun _ hk => hk.2) (.string (⟨#[]⟩ : ByteArray))) (fun _ hk => hk.2) (.slice none 0 0)) (fun _ hk => ⟨hk.1.1.1.1.1.1, (by simp [Value.ownBlock])⟩), yI, (kLI HB), (kK HK)⟩
   ·rw [if_neg c19] at H
    have c19b0 := eF c19
    have c19b1 := nT c19
    simp only [Option.some.injEq, Prod.mk.injEq] at H
    obtain ⟨rfl, rfl, rfl, rfl, rfl, rfl, rfl, rfl, rfl⟩ := H
    go_wp2_with (first | ((with_reducible refine gC 67 rfl ?_); refine gL (some 31) Try.func67 #[.pointer (some ⟨g, 0, none⟩), .int .i64 0] ?_; (with_reducible refine (parse_parser_look.calls _ _ _ _ _ _ _ _ _ _ _ _ w0 _ ?side1 ?side2 A18.out).mono ?_); (case side1 => exact yI); (case side2 => exact (kLI HB)); rintro e w59 ⟨rfl, hi, hb, hk⟩; refine ⟨_, rfl, ?_⟩; replace HO_9 := am (Kd.N_mono (Kd.N_keep (Kd.N_mono (ok := fun k_ => (((w.heap.size ≤ k_)) ∧ (k_ ≠ gb147 ∧ (k_ ≠ gb154 ∧ k_ ≠ g)))) (nB HO_9) (fun k_ hk_ => (⟨hk_, hk_.2.2.2⟩ : _ ∧ k_ ≠ g))) hk (fun _ h => h.2)) (fun _ h => h.1)); replace BK147 := am (KeepBut.blk hk (kB BK147) NB147_0.out (by simp)); replace BK154 := am (KeepBut.blk hk (kB BK154) NB154_0.out (by simp)); replace HK := am (KeepBut.trans (kK HK) hk (.inl rfl)); replace HB := am hb; replace HI0 := am hi; (try clear hi hb hk)) | ((with_reducible refine gD 10 rfl ?_); refine bx 10 #[.int .i64 0, .string (⟨#[]⟩ : ByteArray), .int .i64 0] 71 ?_; intro gb170 hg w60 hbox hb; replace HO_9 := am (Kd.N_below (Kd.N_elderB (nB HO_9) gb170 (Nat.le_of_eq hg.symm)) hb); replace HB := am (below_step (kLI HB) hb); have BK170 := am hbox; have GW170 := am ((by rw [hg]; exact (keep_size (w := w) (g := g) (row := none) (kK HK)) : w.heap.size ≤ gb170)); have GE170 := am ((Nat.le_trans HW0.out (by rw [hg]; exact (keep_size (w := w) (g := g) (row := none) (kK HK)) : w.heap.size ≤ gb170) : w0.heap.size ≤ gb170)); replace HK := am (KeepBut.trans (kK HK) (KeepBut.of_below hb g none) (.inl rfl)); have NB147_170 := am (neL hg (kB BK147)); have NB170_147 := am (neR hg (kB BK147)); replace BK147 := am (bB (kB BK147) hb); have NB154_170 := am (neL hg (kB BK154)); have NB170_154 := am (neR hg (kB BK154)); replace BK154 := am (bB (kB BK154) hb); have NB0_170 := am ((by rw [hg]; exact Nat.ne_of_lt (IsS83.lt (show IsS83 w0 _ g s0_0 t167 t168 t169 from yI)) : g ≠ gb170)); have NB170_0 := am ((by rw [hg]; exact Nat.ne_of_gt (IsS83.lt (show IsS83 w0 _ g s0_0 t167 t168 t169 from yI)) : gb170 ≠ g)); replace HI0 := am (IsS83.below yI hb); clear hb hbox hg; have hnb61 := NB170_147.out; have hnc61 := NB147_170.out; have hnb62 := NB170_154.out; have hnc62 := NB154_170.out; have hnb63 := NB170_0.out; have hnc63 := NB0_170.out; obtain ⟨hcz64_0, hcz64_1, hcz64_2, hfz64_0, hfz64_1, hfz64_2⟩ := bk3 BK170.out; have hnb65 := NB154_147.out; have hnc65 := NB147_154.out; have hnb66 := NB154_0.out; have hnc66 := NB0_154.out; obtain ⟨hcz67_0, hcz67_1, hcz67_2, hcz67_3, hcz67_4, hfz67_0, hfz67_1, hfz67_2, hfz67_3, hfz67_4⟩ := bk5 BK154.out; have hnb68 := NB147_0.out; have hnc68 := NB0_147.out; obtain ⟨hcz69_0, hcz69_1, hcz69_2, hcz69_3, hcz69_4, hfz69_0, hfz69_1, hfz69_2, hfz69_3, hfz69_4⟩ := bk5 BK147.out))
    refine bodyPost_ret (results_ct rfl _ _ gb147 25 #[.int .i64 a1, .string t149, .string (⟨#[]⟩ : ByteArray), .string (⟨#[]⟩ : ByteArray), .slice none 0 0] (0, 0) _ rfl (kM BK147) Try.underlying25 rfl (by kernel_rfl)) rfl ?_
    exact ⟨_, _, yE, by first | exact Kd.R_nil _ _ _ _ _ | exact Kd.N_nil _ _ _ _ _ | exact Kd.V_nil _ _ _ _ _ | exact Kd.Q_nil _ _ _ _ _ | exact Kd.S_nil _ _ _ _ _, by (with_reducible repeat (first | apply Kd.N_alloc | apply Kd.N_drewN | apply Kd.N_drew)); exact Kd.N_mono (Kd.N_far (p := ⟨gb147, 4, none⟩) (Kd.N_far (p := ⟨gb147, 3, none⟩) (Kd.N_far (p := ⟨gb147, 2, none⟩) (Kd.N_far (p := ⟨gb147, 1, none⟩) (Kd.N_far (p := ⟨gb147, 0, none⟩) (Kd.N_far (p := ⟨gb170, 2, none⟩) (Kd.N_far (p := ⟨gb170, 1, none⟩) (Kd.N_far (p := ⟨gb170, 0, none⟩) (Kd.N_mono (Kd.N_mono HO_9.out (fun k_ hk => (⟨hk, hk.2⟩ : _ ∧ k_ ≠ gb170))) (fun k_ hk => (⟨hk, hk.1.1.2.1⟩ : _ ∧ k_ ≠ gb147))) (fun _ hk => hk.1.2) (.int .i64 t164)) (fun _ hk => hk.1.2) (.string t165)) (fun _ hk => hk.1.2) (.int .i64 t166)) (fun _ hk => hk.2) (.int .i64 a1)) (fun _ hk => hk.2) (.string t149)) (fun _ hk => hk.2) (.string (⟨#[]⟩ : ByteArray))) (fun _ hk => hk.2) (.string (⟨#[]⟩ : ByteArray))) (fun _ hk => hk.2) (.slice none 0 0)) (fun _ hk => ⟨hk.1.1.1.1, (by simp [Value.ownBlock])⟩), yI, (kLI HB), (kK HK)⟩
def num_May.f (a0 : ByteArray) : Option (Bool) := (strings_TrimPrefix.f a0 (⟨#[45]⟩ : ByteArray)).bind fun t172 => (if (t172.size : Int) < 1 then (some false) else (if (t172.size : Int) > 100 then (some false) else (if 0 < (t172.size : Int) then (if (bt t172 0) = 48 then (if a0.toList = ([48] : List UInt8) then ((ContainsFunc_May.f t172).bind fun t173 => (some (!t173))) else (some false)) else ((ContainsFunc_May.f t172).bind fun t174 => (some (!t174)))) else (none))))
set_option maxHeartbeats 8000000 in
set_option maxRecDepth 100000 in
theorem num_May.calls (a0 : ByteArray) (r : Bool) (w : World) (h : num_May.f a0 = some r) :
  Calls Try.prog 57 #[.string a0] w fun e w' => e = .returned (.bool r) ∧ Below w.heap.size w w' := by
 have HB := am (Below.refl w.heap.size w)
 unfold num_May.f at h
 have H := h
 clear h
 obtain ⟨t172, A2, H⟩ := bO H
 try dsimp only at H
 by_cases c3 : (t172.size : Int) < 1
 ·rw [if_pos c3] at H
  have c3b0 : decide ((t172.size : Int) < 1) = true := decide_eq_true c3
  have c3b1 : decide (t172.size < 1) = true := decide_eq_true (by omega)
  clear c3
  obtain rfl := Option.some.inj H
  go_enter Try.func57, Try.ntmps57
  go_wp2_with ((with_reducible refine gC 80 rfl ?_); refine gL (some 5) Try.func80 #[.string a0, .string (⟨#[45]⟩ : ByteArray)] ?_; (with_reducible refine (strings_TrimPrefix.calls _ _ _ _ A2.out).mono ?_); rintro e w' ⟨rfl, ⟨nd, rfl⟩⟩; refine ⟨_, rfl, ?_⟩)
  go_ret
  exact ⟨yE, (kL HB)⟩
 ·rw [if_neg c3] at H
  have c3b0 : decide ((t172.size : Int) < 1) = false := decide_eq_false c3
  have c3b1 : decide (t172.size < 1) = false := decide_eq_false (by omega)
  clear c3
  by_cases c4 : (t172.size : Int) > 100
  ·rw [if_pos c4] at H
   have c4b0 : decide (100 < (t172.size : Int)) = true := decide_eq_true c4
   have c4b1 : decide (100 < t172.size) = true := decide_eq_true (by omega)
   clear c4
   obtain rfl := Option.some.inj H
   go_enter Try.func57, Try.ntmps57
   go_wp2_with ((with_reducible refine gC 80 rfl ?_); refine gL (some 5) Try.func80 #[.string a0, .string (⟨#[45]⟩ : ByteArray)] ?_; (with_reducible refine (strings_TrimPrefix.calls _ _ _ _ A2.out).mono ?_); rintro e w' ⟨rfl, ⟨nd, rfl⟩⟩; refine ⟨_, rfl, ?_⟩)
   go_ret
   exact ⟨yE, (kL HB)⟩
  ·rw [if_neg c4] at H
   have c4b0 : decide (100 < (t172.size : Int)) = false := decide_eq_false c4
   have c4b1 : decide (100 < t172.size) = false := decide_eq_false (by omega)
   clear c4
   by_cases c5 : 0 < (t172.size : Int)
   ·rw [if_pos c5] at H
    have c5b0 : decide (0 < (t172.size : Int)) = true := decide_eq_true c5
    have c5b1 : decide (0 < t172.size) = true := decide_eq_true (by omega)
    clear c5
    by_cases c7 : (bt t172 0) = 48
    ·rw [if_pos c7] at H
     have c7b0 := eT c7
     have c7b1 := nF c7
     clear c7
     by_cases c8 : a0.toList = ([48] : List UInt8)
     ·rw [if_pos c8] at H
      have c8b0 := eT c8
      have c8b1 := nF c8
      clear c8
      obtain ⟨t173, A9, H⟩ := bO H
      try dsimp only at H
      obtain rfl := Option.some.inj H
      go_enter Try.func57, Try.ntmps57
      go_wp2_with (first | ((with_reducible refine gC 80 rfl ?_); refine gL (some 5) Try.func80 #[.string a0, .string (⟨#[45]⟩ : ByteArray)] ?_; (with_reducible refine (strings_TrimPrefix.calls _ _ _ _ A2.out).mono ?_); rintro e w' ⟨rfl, ⟨nd, rfl⟩⟩; refine ⟨_, rfl, ?_⟩; have p6 : 0 ≤ (0 : Int) := (by omega); have q6 : 0 < t172.size := (by have : (0 : Int) < (t172.size : Int) := of_decide_eq_true yY; omega); have hx6 : ∀ h : 0 < t172.size, ((t172[0]'h).toNat : Int) = bt t172 0 := bt_at t172 0; clear p6; have qi6 : (0 < (t172.size : Int)) = True := eq_true (of_decide_eq_true yY); replace q6 := eq_true q6) | ((with_reducible refine gC 81 rfl ?_); refine gL (some 24) Try.func81 #[.string t172, .func (.func 82) #[] #[]] ?_; (with_reducible refine (ContainsFunc_May.calls _ _ _ A9.out).mono ?_); rintro e w10 ⟨rfl, hb⟩; refine ⟨_, rfl, ?_⟩; replace HB := am (below_step (kL HB) hb)))
      go_ret
      exact ⟨yE, (kL HB)⟩
     ·rw [if_neg c8] at H
      have c8b0 := eF c8
      have c8b1 := nT c8
      obtain rfl := Option.some.inj H
      go_enter Try.func57, Try.ntmps57
      go_wp2_with ((with_reducible refine gC 80 rfl ?_); refine gL (some 5) Try.func80 #[.string a0, .string (⟨#[45]⟩ : ByteArray)] ?_; (with_reducible refine (strings_TrimPrefix.calls _ _ _ _ A2.out).mono ?_); rintro e w' ⟨rfl, ⟨nd, rfl⟩⟩; refine ⟨_, rfl, ?_⟩; have p6 : 0 ≤ (0 : Int) := (by omega); have q6 : 0 < t172.size := (by have : (0 : Int) < (t172.size : Int) := of_decide_eq_true yY; omega); have hx6 : ∀ h : 0 < t172.size, ((t172[0]'h).toNat : Int) = bt t172 0 := bt_at t172 0; clear p6; have qi6 : (0 < (t172.size : Int)) = True := eq_true (of_decide_eq_true yY); replace q6 := eq_true q6)
      go_ret
      exact ⟨yE, (kL HB)⟩
    ·rw [if_neg c7] at H
     have c7b0 := eF c7
     have c7b1 := nT c7
     obtain ⟨t174, A11, H⟩ := bO H
     try dsimp only at H
     obtain rfl := Option.some.inj H
     go_enter Try.func57, Try.ntmps57
     go_wp2_with (first | ((with_reducible refine gC 80 rfl ?_); refine gL (some 5) Try.func80 #[.string a0, .string (⟨#[45]⟩ : ByteArray)] ?_; (with_reducible refine (strings_TrimPrefix.calls _ _ _ _ A2.out).mono ?_); rintro e w' ⟨rfl, ⟨nd, rfl⟩⟩; refine ⟨_, rfl, ?_⟩; have p6 : 0 ≤ (0 : Int) := (by omega); have q6 : 0 < t172.size := (by have : (0 : Int) < (t172.size : Int) := of_decide_eq_true yY; omega); have hx6 : ∀ h : 0 < t172.size, ((t172[0]'h).toNat : Int) = bt t172 0 := bt_at t172 0; clear p6; have qi6 : (0 < (t172.size : Int)) = True := eq_true (of_decide_eq_true yY); replace q6 := eq_true q6) | ((with_reducible refine gC 81 rfl ?_); refine gL (some 24) Try.func81 #[.string t172, .func (.func 82) #[] #[]] ?_; (with_reducible refine (ContainsFunc_May.calls _ _ _ A11.out).mono ?_); rintro e w12 ⟨rfl, hb⟩; refine ⟨_, rfl, ?_⟩; replace HB := am (below_step (kL HB) hb)))
     go_ret
     exact ⟨yE, (kL HB)⟩
   ·rw [if_neg c5] at H
    exact absurd H (by simp)
def lex_Number.j0 : Nat → ByteArray → ByteArray → Option (ByteArray × Bool)
 | 0, _, _ => none
 | k + 1, x4, x5 => (run_figure.f x4).bind fun t176 => (if t176 = (x4.size : Int) then ((num_May.f x5).bind fun t177 => (if t177 = true then (some (x5, true)) else (some ((⟨#[]⟩ : ByteArray), false)))) else (some ((⟨#[]⟩ : ByteArray), false)))
def lex_Number.f (k : Nat) (a0 : ByteArray) : Option (ByteArray × Bool) := (strings_TrimPrefix.f a0 (⟨#[95]⟩ : ByteArray)).bind fun t175 => (if t175.toList = a0.toList then (lex_Number.j0 k t175 t175) else (if 1 + t175.size ≤ 9223372036854775807 then (lex_Number.j0 k t175 ((⟨#[45]⟩ : ByteArray) ++ t175)) else (none)))
theorem lex_Number.mono_l : ∀ k, (∀ y0 y1, LeO (lex_Number.j0 k y0 y1) (lex_Number.j0 (k + 1) y0 y1))
 | 0 => fun _ _ r h => by simp [lex_Number.j0] at h
 | k + 1 => by
  have ih0 := lex_Number.mono_l k
  ·intro y0 y1
   unfold lex_Number.j0
   with_reducible repeat' first
   | exact ih0 _ _
   | exact LeO.refl _
   | exact LeO.none _
   | refine LeO.ite ?_ ?_
   | refine LeO.bind ?_ (fun _ => ?_)
theorem lex_Number.mono : ∀ a0 k, LeO (lex_Number.f k a0) (lex_Number.f (k + 1) a0) := by
 intro a0 k
 have ih0 := lex_Number.mono_l k
 unfold lex_Number.f
 with_reducible repeat' first
   | exact ih0 _ _
   | exact LeO.refl _
   | exact LeO.none _
   | refine LeO.ite ?_ ?_
   | refine LeO.bind ?_ (fun _ => ?_)
set_option maxHeartbeats 8000000 in
set_option maxRecDepth 100000 in
theorem lex_Number.calls (k : Nat) (a0 : ByteArray) (r1 : ByteArray) (r2 : Bool) (w : World) (h : lex_Number.f k a0 = some (r1, r2)) :
  Calls Try.prog 91 #[.string a0] w fun e w' => e = .returned (.tuple #[.string r1, .bool r2]) ∧ Below w.heap.size w w' := by
 have HB := am (Below.refl w.heap.size w)
 unfold lex_Number.f at h
 have H := h
 clear h
 obtain ⟨t175, A2, H⟩ := bO H
 try dsimp only at H
 have HC3 := am H
 clear H
 go_enter Try.func91, Try.ntmps91
 go_upto_if 11 with (first | ((with_reducible refine gC 80 rfl ?_); refine gL (some 7) Try.func80 #[.string a0, .string (⟨#[95]⟩ : ByteArray)] ?_; (with_reducible refine (strings_TrimPrefix.calls _ _ _ _ A2.out).mono ?_); rintro e w' ⟨rfl, ⟨nd, rfl⟩⟩; refine ⟨_, rfl, ?_⟩))
 (try simp only [Act.put, zT, z0, zS])
 go_cut [5] (fun v5 wc => ∃ (kq : Nat) (x5_2 : ByteArray), v5 = .string x5_2 ∧ Aside0 (lex_Number.j0 kq t175 x5_2 = some (r1, r2)) ∧ Aside0 (kq ≤ k) ∧ Aside0 (Below w.heap.size w wc))
 case first =>
  have H := HC3.out
  clear HC3
  by_cases c4 : t175.toList = a0.toList
  ·rw [if_pos c4] at H
   have c4b0 := eT c4
   have c4b1 := nF c4
   clear c4
   (first | rw [c4b0] | (simp only [i64_w, i32_w]; rw [c4b0]) | skip)
   have H' := am H
   clear H
   go_wp2
   go_meet
   case rel => exact ⟨_, (t175), yS, H', ⟨yO⟩, ⟨(kL HB)⟩⟩
  ·rw [if_neg c4] at H
   have c4b0 := eF c4
   have c4b1 := nT c4
   (first | rw [c4b0] | (simp only [i64_w, i32_w]; rw [c4b0]) | skip)
   by_cases c5 : 1 + t175.size ≤ 9223372036854775807
   ·rw [if_pos c5] at H
    have c5b0 := eq_true c5
    have c5b1 : decide (1 + t175.size ≤ 9223372036854775807) = true := decide_eq_true c5
    try have c5b2 : (9223372036854775807 < 1 + t175.size) = False := eq_false (Nat.not_lt.2 c5)
    have H' := am H
    clear H
    go_wp2
    go_meet
    case rel => exact ⟨_, ((⟨#[45]⟩ : ByteArray) ++ t175), yS, H', ⟨yO⟩, ⟨(kL HB)⟩⟩
   ·rw [if_neg c5] at H
    exact absurd H (by simp)
 case rest =>
  clear HC3
  try clear p2
  try clear c4
  try clear c4b0
  try clear c4b1
  try clear c5
  try clear c5b0
  try clear c5b1
  try clear c5b2
  obtain ⟨kq, x5_2, rfl, HA, HJ2, HB⟩ := hcut
  cases kq with
  | zero => exact absurd HA.out (by simp [lex_Number.j0])
  | succ kj2 =>
   have H := HA.out
   clear HA
   simp only [lex_Number.j0] at H
   obtain ⟨t176, A6, H⟩ := bO H
   try dsimp only at H
   by_cases c7 : t176 = (t175.size : Int)
   ·rw [if_pos c7] at H
    have c7b0 := eT c7
    have c7b1 := nF c7
    clear c7
    obtain ⟨t177, A8, H⟩ := bO H
    try dsimp only at H
    by_cases c9 : t177 = true
    ·subst c9
     rw [if_pos rfl] at H
     simp only [Option.some.injEq, Prod.mk.injEq] at H
     obtain ⟨rfl, rfl⟩ := H
     go_wp2_with (first | ((with_reducible refine gC 85 rfl ?_); refine gL (some 15) Try.func85 #[.string t175, .func (.func 87) #[] #[]] ?_; (with_reducible refine (run_figure.calls _ _ _ A6.out).mono ?_); rintro e w' ⟨rfl, ⟨nd, rfl⟩⟩; refine ⟨_, rfl, ?_⟩) | (go_at_call 57; (with_reducible refine (num_May.calls _ _ _ A8.out).mono ?_); rintro e w10 ⟨rfl, hb⟩; replace HB := am (below_step (kL HB) hb)))
     go_ret2
     exact ⟨yE, (kL HB)⟩
    ·replace c9 := Bool.eq_false_iff.mpr c9
     subst c9
     rw [if_neg (show ¬ (false = true) by decide)] at H
     simp only [Option.some.injEq, Prod.mk.injEq] at H
     obtain ⟨rfl, rfl⟩ := H
     go_wp2_with (first | ((with_reducible refine gC 85 rfl ?_); refine gL (some 15) Try.func85 #[.string t175, .func (.func 87) #[] #[]] ?_; (with_reducible refine (run_figure.calls _ _ _ A6.out).mono ?_); rintro e w' ⟨rfl, ⟨nd, rfl⟩⟩; refine ⟨_, rfl, ?_⟩) | (go_at_call 57; (with_reducible refine (num_May.calls _ _ _ A8.out).mono ?_); rintro e w11 ⟨rfl, hb⟩; replace HB := am (below_step (kL HB) hb)))
     go_ret2
     exact ⟨yE, (kL HB)⟩
   ·rw [if_neg c7] at H
    have c7b0 := eF c7
    have c7b1 := nT c7
    simp only [Option.some.injEq, Prod.mk.injEq] at H
    obtain ⟨rfl, rfl⟩ := H
    go_wp2_with ((with_reducible refine gC 85 rfl ?_); refine gL (some 15) Try.func85 #[.string t175, .func (.func 87) #[] #[]] ?_; (with_reducible refine (run_figure.calls _ _ _ A6.out).mono ?_); rintro e w' ⟨rfl, ⟨nd, rfl⟩⟩; refine ⟨_, rfl, ?_⟩)
    go_ret2
    exact ⟨yE, (kL HB)⟩
end Go.Proofs.Ytdelccahgchadaa.P
end
section
namespace Go.Proofs.Ytdelccahgchadaa.P
open Go.RowKit Go.Proofs.YtdelccahgchadaaW.PrintWords Go.Proofs.YtdelccahgchadaaW.PrintLast Go.Proofs.YtdelccahgchadaaW.PrintMore
attribute [local go_sem] max2_int min2_int max_two min_two max_three min_three max_four min_four   
set_option linter.unusedVariables false
set_option linter.unusedSimpArgs false
def lex_Literal.f (a0 : ByteArray) : Option (ByteArray × Bool) := (num_May.f a0).bind fun t1188 => (if t1188 = true then ((strings_TrimPrefix.f a0 (⟨#[45]⟩ : ByteArray)).bind fun t1189 => (if t1189.toList = a0.toList then (some (a0, true)) else (if 1 + t1189.size ≤ 9223372036854775807 then (some ((⟨#[95]⟩ : ByteArray) ++ t1189, true)) else (none)))) else (some ((⟨#[]⟩ : ByteArray), false)))
set_option maxHeartbeats 8000000 in
set_option maxRecDepth 100000 in
theorem lex_Literal.calls (a0 : ByteArray) (r1 : ByteArray) (r2 : Bool) (w : World) (h : lex_Literal.f a0 = some (r1, r2)) :
  Calls Try.prog 102 #[.string a0] w fun e w' => e = .returned (.tuple #[.string r1, .bool r2]) ∧ Below w.heap.size w w' := by
 have HB := am (Below.refl w.heap.size w)
 unfold lex_Literal.f at h
 have H := h
 clear h
 obtain ⟨t1188, A2, H⟩ := bO H
 try dsimp only at H
 by_cases c3 : t1188 = true
 ·subst c3
  rw [if_pos rfl] at H
  obtain ⟨t1189, A4, H⟩ := bO H
  try dsimp only at H
  by_cases c5 : t1189.toList = a0.toList
  ·rw [if_pos c5] at H
   have c5b0 := eT c5
   have c5b1 := nF c5
   clear c5
   simp only [Option.some.injEq, Prod.mk.injEq] at H
   obtain ⟨rfl, rfl⟩ := H
   go_enter Try.func102, Try.ntmps102
   go_wp2_with (first | ((with_reducible refine gC 57 rfl ?_); refine gL (some 6) Try.func57 #[.string a0] ?_; (with_reducible refine (num_May.calls _ _ _ A2.out).mono ?_); rintro e w6 ⟨rfl, hb⟩; refine ⟨_, rfl, ?_⟩; replace HB := am (below_step (kL HB) hb); (try clear hb)) | ((with_reducible refine gC 80 rfl ?_); refine gL (some 9) Try.func80 #[.string a0, .string (⟨#[45]⟩ : ByteArray)] ?_; (with_reducible refine (strings_TrimPrefix.calls _ _ _ _ A4.out).mono ?_); rintro e w' ⟨rfl, ⟨nd, rfl⟩⟩; refine ⟨_, rfl, ?_⟩))
   go_ret2
   exact ⟨yE, (kL HB)⟩
  ·rw [if_neg c5] at H
   have c5b0 := eF c5
   have c5b1 := nT c5
   by_cases c7 : 1 + t1189.size ≤ 9223372036854775807
   ·rw [if_pos c7] at H
    have c7b0 := eq_true c7
    have c7b1 : decide (1 + t1189.size ≤ 9223372036854775807) = true := decide_eq_true c7
    try have c7b2 : (9223372036854775807 < 1 + t1189.size) = False := eq_false (Nat.not_lt.2 c7)
    simp only [Option.some.injEq, Prod.mk.injEq] at H
    obtain ⟨rfl, rfl⟩ := H
    go_enter Try.func102, Try.ntmps102
    go_wp2_with (first | ((with_reducible refine gC 57 rfl ?_); refine gL (some 6) Try.func57 #[.string a0] ?_; (with_reducible refine (num_May.calls _ _ _ A2.out).mono ?_); rintro e w8 ⟨rfl, hb⟩; refine ⟨_, rfl, ?_⟩; replace HB := am (below_step (kL HB) hb); (try clear hb)) | ((with_reducible refine gC 80 rfl ?_); refine gL (some 9) Try.func80 #[.string a0, .string (⟨#[45]⟩ : ByteArray)] ?_; (with_reducible refine (strings_TrimPrefix.calls _ _ _ _ A4.out).mono ?_); rintro e w' ⟨rfl, ⟨nd, rfl⟩⟩; refine ⟨_, rfl, ?_⟩))
    go_ret2
    exact ⟨yE, (kL HB)⟩
   ·rw [if_neg c7] at H
    exact absurd H (by simp)
 ·replace c3 := Bool.eq_false_iff.mpr c3
  subst c3
  rw [if_neg (show ¬ (false = true) by decide)] at H
  simp only [Option.some.injEq, Prod.mk.injEq] at H
  obtain ⟨rfl, rfl⟩ := H
  go_enter Try.func102, Try.ntmps102
  go_wp2_with ((with_reducible refine gC 57 rfl ?_); refine gL (some 6) Try.func57 #[.string a0] ?_; (with_reducible refine (num_May.calls _ _ _ A2.out).mono ?_); rintro e w9 ⟨rfl, hb⟩; refine ⟨_, rfl, ?_⟩; replace HB := am (below_step (kL HB) hb); (try clear hb))
  go_ret2
  exact ⟨yE, (kL HB)⟩
def print_printer_literal.l0 : Nat → List ByteArray → List ByteArray → Int → Int → List (S25) → Int → Option (ByteArray × Int)
 | 0, _, _, _, _, _, _ => none
 | k + 1, x5, x11, x12, x13, x1000, x1001 => if x13 < x12 then (if 0 ≤ x13 then (if x13 < (x11.length : Int) then ((lex_Literal.f (rdOf ByteArray.empty x11 x13)).bind fun bt1192 => (if x5.length < 8796093022208 then (print_printer_literal.l0 k (x5 ++ [bt1192.1]) x11 x12 (wrap64 (x13 + 1)) x1000 x1001) else (none))) else (none)) else (none)) else ((strings_Join.f x5 (⟨#[32]⟩ : ByteArray)).bind fun t1197 => (some (t1197, x1001)))
def print_printer_literal.f (k : Nat) (s0_0 : List (S25)) (s0_1 : Int) (a1_0 : Int) (a1_1 : ByteArray) (a1_2 : ByteArray) (a1_3 : ByteArray) (l1_4 : List ByteArray) : Option (ByteArray × Int) := print_printer_literal.l0 k ([] : List ByteArray) l1_4 (l1_4.length : Int) 0 s0_0 s0_1
theorem print_printer_literal.mono_l : ∀ k, (∀ y0 y1 y2 y3 y4 y5, LeO (print_printer_literal.l0 k y0 y1 y2 y3 y4 y5) (print_printer_literal.l0 (k + 1) y0 y1 y2 y3 y4 y5))
 | 0 => fun _ _ _ _ _ _ r h => by simp [print_printer_literal.l0] at h
 | k + 1 => by
  have ih0 := print_printer_literal.mono_l k
  ·intro y0 y1 y2 y3 y4 y5
   unfold print_printer_literal.l0
   with_reducible repeat' first
   | exact ih0 _ _ _ _ _ _
   | exact LeO.refl _
   | exact LeO.none _
   | refine LeO.ite ?_ ?_
   | refine LeO.bind ?_ (fun _ => ?_)
theorem print_printer_literal.mono : ∀ a0 a1 a2 a3 a4 a5 a6 k, LeO (print_printer_literal.f k a0 a1 a2 a3 a4 a5 a6) (print_printer_literal.f (k + 1) a0 a1 a2 a3 a4 a5 a6) := by
 intro a0 a1 a2 a3 a4 a5 a6 k
 have ih0 := print_printer_literal.mono_l k
 unfold print_printer_literal.f
 with_reducible repeat' first
   | exact ih0 _ _ _ _ _ _
   | exact LeO.refl _
   | exact LeO.none _
   | refine LeO.ite ?_ ?_
   | refine LeO.bind ?_ (fun _ => ?_)
set_option maxHeartbeats 8000000 in
set_option maxRecDepth 100000 in
theorem print_printer_literal.calls (k : Nat) (g : Nat) (s0_0 : List (S25)) (s0_1 : Int) (a1_0 : Int) (a1_1 : ByteArray) (a1_2 : ByteArray) (a1_3 : ByteArray) (A1_4 : Option Addr) (c1_4 : Nat) (l1_4 : List ByteArray) (r1 : ByteArray) (r2 : Int) (w0 w : World) (hI : IsS74 w0 w g s0_0 s0_1) (hB : Below w0.heap.size w0 w) (hr1_4 : Kd.C Kd.string w A1_4 l1_4.length l1_4) (hc1_4 : l1_4.length ≤ c1_4) (hf1_4 : ∀ ad, A1_4 = some ad → 0 < l1_4.length → ad.block ≠ g) (h : print_printer_literal.f k s0_0 s0_1 a1_0 a1_1 a1_2 a1_3 l1_4 = some (r1, r2)) :
  Calls Try.prog 71 #[.pointer (some ⟨g, 0, none⟩), .agg #[.int .i64 a1_0, .string a1_1, .string a1_2, .string a1_3, .slice A1_4 l1_4.length c1_4]] w fun e w' => e = .returned (.string r1) ∧ IsS74 w0 w' g s0_0 r2 ∧ Below w0.heap.size w0 w' ∧ KeepBut w w' g none := by
 have hu25 := Try.underlying25
 have HR1_4 := am hr1_4
 have HC1_4 := am hc1_4
 clear hr1_4 hc1_4
 have HI0 := am hI
 have HK := am (KeepBut.refl w g none)
 have HL := am hB.size
 clear hI
 have HW0 := am hB.size
 have HB := am hB
 clear hB
 unfold print_printer_literal.f at h
 have H := h
 clear h
 have H' := am H
 clear H
 go_enter Try.func71, Try.ntmps71
 go_wp2_with ((with_reducible refine gD 3 rfl ?_); refine bx 3 #[.int .i64 a1_0, .string a1_1, .string a1_2, .string a1_3, .slice A1_4 l1_4.length c1_4] 25 ?_; intro gb1190 hg w3 hbox hb; replace HB := am (below_step (kLIT HB) hb); have BK1190 := am hbox; have GW1190 := am ((by rw [hg]; exact (keep_size (w := w) (g := g) (row := none) (kK HK)) : w.heap.size ≤ gb1190)); have GE1190 := am ((Nat.le_trans HW0.out (by rw [hg]; exact (keep_size (w := w) (g := g) (row := none) (kK HK)) : w.heap.size ≤ gb1190) : w0.heap.size ≤ gb1190)); replace HK := am (KeepBut.trans (kK HK) (KeepBut.of_below hb g none) (.inl rfl)); have NB0_1190 := am ((by rw [hg]; exact Nat.ne_of_lt (IsS74.lt (show IsS74 w0 _ g s0_0 s0_1 from yIT)) : g ≠ gb1190)); have NB1190_0 := am ((by rw [hg]; exact Nat.ne_of_gt (IsS74.lt (show IsS74 w0 _ g s0_0 s0_1 from yIT)) : gb1190 ≠ g)); replace HI0 := am (IsS74.below yIT hb); clear hb hbox hg; have hnb4 := NB1190_0.out; have hnc4 := NB0_1190.out; obtain ⟨hcz5_0, hcz5_1, hcz5_2, hcz5_3, hcz5_4, hfz5_0, hfz5_1, hfz5_2, hfz5_3, hfz5_4⟩ := bk5 BK1190.out)
 go_loopg [5, 13] k (fun kq v5 v13 w' => ∃ (x5_1 : List ByteArray) (x13_1 : Int), v13 = .int .i64 x13_1 ∧ Aside0 (print_printer_literal.l0 kq x5_1 l1_4 (l1_4.length : Int) x13_1 s0_0 s0_1 = some (r1, r2)) ∧ Aside0 (kq ≤ k) ∧ Aside0 (Kd.R Kd.string 9 w' w.heap.size (fun _ => True) v5 x5_1) ∧ Aside0 (w'.heap[gb1190]? = some (.cells #[.int .i64 a1_0, .string a1_1, .string a1_2, .string a1_3, (.slice A1_4 l1_4.length c1_4)] 25 (0, 0))) ∧ Aside0 (IsS74 w0 w' g s0_0 s0_1) ∧ Aside0 (KeepBut w w' g none) ∧ Aside0 (Below w0.heap.size w0 w'))
 case atStart => exact ⟨(([] : List ByteArray)), (0), yS, H', ⟨Nat.le_refl _⟩, ⟨by first | exact Kd.R_nil _ _ _ _ _ | exact Kd.N_nil _ _ _ _ _ | exact Kd.V_nil _ _ _ _ _ | exact Kd.Q_nil _ _ _ _ _ | exact Kd.S_nil _ _ _ _ _⟩, ⟨kB BK1190⟩, ⟨yIT⟩, ⟨(kK HK)⟩, ⟨(kLIT HB)⟩⟩
 case round =>
  clear H'
  try clear c1
  try clear p2
  try clear c4
  try clear hcz5_0 hcz5_1 hcz5_2 hcz5_3 hcz5_4 hfz5_0 hfz5_1 hfz5_2 hfz5_3 hfz5_4
  obtain ⟨x5_1, x13_1, rfl, HA, HK1, HO_5, BK1190, HI0, HK, HB⟩ := hrel
  cases gk with
  | zero => exact absurd HA.out (by simp [print_printer_literal.l0])
  | succ k1 =>
   have H := HA.out
   clear HA
   simp only [print_printer_literal.l0] at H
   by_cases c6 : x13_1 < (l1_4.length : Int)
   ·rw [if_pos c6] at H
    have c6b0 : decide (x13_1 < (l1_4.length : Int)) = true := decide_eq_true c6
    clear c6
    by_cases c7 : 0 ≤ x13_1
    ·rw [if_pos c7] at H
     have c7b0 : decide (0 ≤ x13_1) = true := decide_eq_true c7
     clear c7
     by_cases c8 : x13_1 < (l1_4.length : Int)
     ·rw [if_pos c8] at H
      have c8b0 : decide (x13_1 < (l1_4.length : Int)) = true := decide_eq_true c8
      clear c8
      obtain ⟨⟨t1192, t1193⟩, A9, H⟩ := bO H
      try dsimp only at H
      by_cases c10 : x5_1.length < 8796093022208
      ·rw [if_pos c10] at H
       have LMc10 := am c10
       clear c10
       obtain ⟨y1194, hy1194⟩ : ∃ y_ : List ByteArray, y_ = (x5_1 ++ [t1192]) := ⟨_, rfl⟩
       replace H : (print_printer_literal.l0 k1 y1194 l1_4 (l1_4.length : Int) (wrap64 (x13_1 + 1)) s0_0 s0_1) = some (r1, r2) := by first | (rw [hy1194]; with_reducible exact H) | (have H2_ := (Option.bind_some _ _).symm.trans H; rw [hy1194]; with_reducible exact H2_) | (have H2_ := (Option.bind_some _ _).symm.trans H; with_reducible exact H2_) | with_reducible exact H | (rw [hy1194]; exact H) | exact H
       have Ny1194 := am hy1194
       clear hy1194
       have H' := am H
       clear H
       have p1191 : 0 ≤ (x13_1 : Int) := of_decide_eq_true yY
       have q1191 : x13_1 < (l1_4.length : Int) := of_decide_eq_true yY
       obtain ⟨ad1191, e1191, hx1191_0⟩ := Kd.at_string HR1_4.out x13_1 p1191 q1191
       cases e1191
       replace hx1191_0 := keep_cell HK.out hx1191_0 (by first | (rw [add_block]; exact hf1_4 _ rfl (by omega)) | exact hf1_4 _ rfl (by omega) | exact hf1_4 ad1191 rfl (by omega))
       replace p1191 := eq_true p1191
       replace q1191 := eq_true q1191
       go_wp2_with (first | ((with_reducible refine gC 102 rfl ?_); refine gL (some 19) Try.func102 #[.string (rdOf ByteArray.empty l1_4 x13_1)] ?_; (with_reducible refine (lex_Literal.calls _ _ _ _ A9.out).mono ?_); rintro e w11 ⟨rfl, hb⟩; refine ⟨_, rfl, ?_⟩; replace HO_5 := am (Kd.R_below (rB HO_5) hb); replace BK1190 := am (bB (kB BK1190) hb); replace HK := am (KeepBut.trans (kK HK) (KeepBut.of_below hb g none) (.inl rfl)); replace HB := am (below_step (kLIT HB) hb); replace HI0 := am (IsS74.below yIT hb); (try clear hb)) | ((with_reducible refine gate_builtin (b := .append) (xs := #[.tmp 22, .tmp 24]) rfl ?_); at_builtin; refine Kd.R_append Kd.string w.heap.size rfl (.tmp 22) (.tmp 24) 23 9 (.string ⟨#[]⟩) 16 rfl Try.underlying23 info9 rfl (by decide) (by omega) u5 x5_1 t1192 [.string t1192] (fun _ => True) (fun _ => False) rfl rfl ?aP (fun _ hk => hk.elim) ?aF ?aO (Below.refl _ _) ?aS ?aL ?_; (case aP => exact rfl); (case aF => exact (fun _ _ => trivial)); (case aO => exact (rB HO_5)); (case aS => exact (keep_size (w := w) (g := g) (row := none) (kK HK))); (case aL => have := LMc10.out; omega); intro v1195 w12 ho hb hg hat; rw [← Ny1194.out] at ho; have n0_ := am (blk_grown (g := gb1190) (o := .cells #[.int .i64 a1_0, .string a1_1, .string a1_2, .string a1_3, .slice (some ad1191) l1_4.length c1_4] 25 (0, 0)) (kB BK1190) hg (Kd.R_ne HO_5.out BK1190.out (by decide))); have n1_ := am (IsS74.grown yIT hg (IsS74.own_ne HI0.out HO_5.out (by decide))); have n2_ := am (below_weaken (kLIT HB) HL.out hb); have n3_ := am (KeepBut.trans (kK HK) (KeepBut.of_grown hg g) (Kd.R_base2 HO_5.out)); have n4_ := am (ho); clear BK1190; clear HI0; clear HB; clear HK; clear HO_5; have BK1190 := n0_; have HI0 := n1_; have HB := n2_; have HK := n3_; have HO1196 := n4_; clear n0_ n1_ n2_ n3_ n4_; clear ho hb hg hat))
       go_roundg k1
       case measure => have := HK1.out; omega
       case rel => exact ⟨(y1194), (wrap64 (x13_1 + 1)), yS, H', ⟨by have := HK1.out; omega⟩, ⟨rB HO1196⟩, ⟨kB BK1190⟩, ⟨yIT⟩, ⟨(kK HK)⟩, ⟨(kLIT HB)⟩⟩
      ·rw [if_neg c10] at H
       exact absurd H (by simp)
     ·rw [if_neg c8] at H
      exact absurd H (by simp)
    ·rw [if_neg c7] at H
     exact absurd H (by simp)
   ·rw [if_neg c6] at H
    have c6b0 : decide (x13_1 < (l1_4.length : Int)) = false := decide_eq_false c6
    clear c6
    obtain ⟨t1197, A13, H⟩ := bO H
    try dsimp only at H
    simp only [Option.some.injEq, Prod.mk.injEq] at H
    obtain ⟨rfl, rfl⟩ := H
    obtain ⟨Ao14, co14, eo14⟩ := Kd.R_slice HO_5.out
    subst eo14
    go_wp2_with ((with_reducible refine gC 103 rfl ?_); refine gL (some 28) Try.func103 #[.slice Ao14 x5_1.length co14, .string (⟨#[32]⟩ : ByteArray)] ?_; (with_reducible refine (strings_Join.calls _ _ _ _ _ _ ?side1 ?side2 A13.out).mono ?_); (case side1 => exact (Kd.R_reads' (rB HO_5)).2.2); (case side2 => exact (Kd.R_reads' HO_5.out).2.1); rintro e w15 ⟨rfl, hb⟩; refine ⟨_, rfl, ?_⟩; replace HO_5 := am (Kd.R_below (rB HO_5) hb); replace BK1190 := am (bB (kB BK1190) hb); replace HK := am (KeepBut.trans (kK HK) (KeepBut.of_below hb g none) (.inl rfl)); replace HB := am (below_step (kLIT HB) hb); replace HI0 := am (IsS74.below yIT hb); (try clear hb))
    go_ret
    exact ⟨yE, yIT, (kLIT HB), (kK HK)⟩
def print_printer_name.f (s0_0 : List (S25)) (s0_1 : Int) (a1_0 : Int) (a1_1 : ByteArray) (a1_2 : ByteArray) (a1_3 : ByteArray) (l1_4 : List ByteArray) : Option (ByteArray × Int) := some (a1_3, s0_1)
set_option maxHeartbeats 8000000 in
set_option maxRecDepth 100000 in
theorem print_printer_name.calls (g : Nat) (s0_0 : List (S25)) (s0_1 : Int) (a1_0 : Int) (a1_1 : ByteArray) (a1_2 : ByteArray) (a1_3 : ByteArray) (A1_4 : Option Addr) (c1_4 : Nat) (l1_4 : List ByteArray) (r1 : ByteArray) (r2 : Int) (w0 w : World) (hI : IsS74 w0 w g s0_0 s0_1) (hB : Below w0.heap.size w0 w) (hr1_4 : Kd.C Kd.string w A1_4 l1_4.length l1_4) (hc1_4 : l1_4.length ≤ c1_4) (hf1_4 : ∀ ad, A1_4 = some ad → 0 < l1_4.length → ad.block ≠ g) (h : print_printer_name.f s0_0 s0_1 a1_0 a1_1 a1_2 a1_3 l1_4 = some (r1, r2)) :
  Calls Try.prog 72 #[.pointer (some ⟨g, 0, none⟩), .agg #[.int .i64 a1_0, .string a1_1, .string a1_2, .string a1_3, .slice A1_4 l1_4.length c1_4]] w fun e w' => e = .returned (.string r1) ∧ IsS74 w0 w' g s0_0 r2 ∧ Below w0.heap.size w0 w' ∧ KeepBut w w' g none := by
 have hu25 := Try.underlying25
 have HR1_4 := am hr1_4
 have HC1_4 := am hc1_4
 clear hr1_4 hc1_4
 have HI0 := am hI
 have HK := am (KeepBut.refl w g none)
 have HL := am hB.size
 clear hI
 have HW0 := am hB.size
 have HB := am hB
 clear hB
 unfold print_printer_name.f at h
 have H := h
 clear h
 simp only [Option.some.injEq, Prod.mk.injEq] at H
 obtain ⟨rfl, rfl⟩ := H
 go_enter Try.func72, Try.ntmps72
 go_wp2_with ((with_reducible refine gD 3 rfl ?_); refine bx 3 #[.int .i64 a1_0, .string a1_1, .string a1_2, .string a1_3, .slice A1_4 l1_4.length c1_4] 25 ?_; intro gb1198 hg w3 hbox hb; replace HB := am (below_step (kLIT HB) hb); have BK1198 := am hbox; have GW1198 := am ((by rw [hg]; exact (keep_size (w := w) (g := g) (row := none) (kK HK)) : w.heap.size ≤ gb1198)); have GE1198 := am ((Nat.le_trans HW0.out (by rw [hg]; exact (keep_size (w := w) (g := g) (row := none) (kK HK)) : w.heap.size ≤ gb1198) : w0.heap.size ≤ gb1198)); replace HK := am (KeepBut.trans (kK HK) (KeepBut.of_below hb g none) (.inl rfl)); have NB0_1198 := am ((by rw [hg]; exact Nat.ne_of_lt (IsS74.lt (show IsS74 w0 _ g s0_0 s0_1 from yIT)) : g ≠ gb1198)); have NB1198_0 := am ((by rw [hg]; exact Nat.ne_of_gt (IsS74.lt (show IsS74 w0 _ g s0_0 s0_1 from yIT)) : gb1198 ≠ g)); replace HI0 := am (IsS74.below yIT hb); clear hb hbox hg; have hnb4 := NB1198_0.out; have hnc4 := NB0_1198.out; obtain ⟨hcz5_0, hcz5_1, hcz5_2, hcz5_3, hcz5_4, hfz5_0, hfz5_1, hfz5_2, hfz5_3, hfz5_4⟩ := bk5 BK1198.out)
 go_ret
 exact ⟨yE, yIT, (kLIT HB), (kK HK)⟩
end Go.Proofs.Ytdelccahgchadaa.P
end
section
namespace Go.Proofs.Ytdelccahgchadaa.P
open Go.RowKit Go.Proofs.YtdelccahgchadaaW.PrintWords Go.Proofs.YtdelccahgchadaaW.PrintLast Go.Proofs.YtdelccahgchadaaW.PrintMore
set_option linter.unusedVariables false
abbrev NX_F := List S25 → Int → Option (ByteArray × Int)
structure NX_C (NXF : NX_F) : Prop where
 out : ∀ (g : Nat) (s0_0 : List S25) (s0_1 : Int) (r1 : ByteArray) (r2 : Int) (w0 w : World) (_ : IsS74 w0 w g s0_0 s0_1) (_ : Below w0.heap.size w0 w) (_ : NXF s0_0 s0_1 = some (r1, r2)),
  Calls Try.prog 54 #[.pointer (some ⟨g, 0, none⟩)] w fun e w' => e = .returned (.string r1) ∧ IsS74 w0 w' g s0_0 r2 ∧ Below w0.heap.size w0 w' ∧ KeepBut w w' g none
end Go.Proofs.Ytdelccahgchadaa.P
end
section
namespace Go.Proofs.Ytdelccahgchadaa.P
open Go.RowKit Go.Proofs.YtdelccahgchadaaW.PrintWords Go.Proofs.YtdelccahgchadaaW.PrintLast Go.Proofs.YtdelccahgchadaaW.PrintMore
attribute [local go_sem] max2_int min2_int max_two min_two max_three min_three max_four min_four   
set_option linter.unusedVariables false
set_option linter.unusedSimpArgs false
def print_printer_verb.f (NXF : NX_F) (s0_0 : List (S25)) (s0_1 : Int) (a1_0 : Int) (a1_1 : ByteArray) (a1_2 : ByteArray) (a1_3 : ByteArray) (l1_4 : List ByteArray) : Option (ByteArray × Int) := if a1_1.toList = ([123] : List UInt8) then ((NXF s0_0 s0_1).bind fun bt1200 => (if 1 + bt1200.1.size ≤ 9223372036854775807 then (if ((⟨#[123]⟩ : ByteArray) ++ bt1200.1).size + 1 ≤ 9223372036854775807 then (if (((⟨#[123]⟩ : ByteArray) ++ bt1200.1) ++ (⟨#[125]⟩ : ByteArray)).size + a1_2.size ≤ 9223372036854775807 then (some ((((⟨#[123]⟩ : ByteArray) ++ bt1200.1) ++ (⟨#[125]⟩ : ByteArray)) ++ a1_2, bt1200.2)) else (none)) else (none)) else (none))) else (if 0 < (a1_1.size : Int) then (if (bt a1_1 0) ≥ 65 then (if (bt a1_1 0) ≤ 90 then (if 1 + a1_1.size ≤ 9223372036854775807 then (if ((⟨#[32]⟩ : ByteArray) ++ a1_1).size + 1 ≤ 9223372036854775807 then (if (((⟨#[32]⟩ : ByteArray) ++ a1_1) ++ (⟨#[32]⟩ : ByteArray)).size + a1_2.size ≤ 9223372036854775807 then (some ((((⟨#[32]⟩ : ByteArray) ++ a1_1) ++ (⟨#[32]⟩ : ByteArray)) ++ a1_2, s0_1)) else (none)) else (none)) else (none)) else (if a1_1.size + a1_2.size ≤ 9223372036854775807 then (some (a1_1 ++ a1_2, s0_1)) else (none))) else (if a1_1.size + a1_2.size ≤ 9223372036854775807 then (some (a1_1 ++ a1_2, s0_1)) else (none))) else (none))
def print_printer_verb.T2 : Bool × List (List Nat × List Nat) := (true, [([], []), ([0], [0]), ([1], [1]), ([2], [2]), ([], []), ([4], [4]), ([3, 5], [3, 5]), ([6, 1, 0, 1, 2, 3, 4, 5, 6], [6])])
def print_printer_verb.B2 : List Nat := [0, 1, 3, 7, 0, 16, 63, 127]
theorem print_printer_verb.tab2 : rtab .any (opsOf Try.f104 2) = print_printer_verb.T2 := by kernel_rfl
theorem print_printer_verb.bits2 : waitsOk print_printer_verb.T2.2 print_printer_verb.B2 = true := by kernel_rfl
set_option maxHeartbeats 8000000 in
set_option maxRecDepth 100000 in
theorem print_printer_verb.calls (NXF : NX_F) (NXC : NX_C NXF) (g : Nat) (s0_0 : List (S25)) (s0_1 : Int) (a1_0 : Int) (a1_1 : ByteArray) (a1_2 : ByteArray) (a1_3 : ByteArray) (A1_4 : Option Addr) (c1_4 : Nat) (l1_4 : List ByteArray) (r1 : ByteArray) (r2 : Int) (w0 w : World) (hI : IsS74 w0 w g s0_0 s0_1) (hB : Below w0.heap.size w0 w) (hr1_4 : Kd.C Kd.string w A1_4 l1_4.length l1_4) (hc1_4 : l1_4.length ≤ c1_4) (hf1_4 : ∀ ad, A1_4 = some ad → 0 < l1_4.length → ad.block ≠ g) (h : print_printer_verb.f NXF s0_0 s0_1 a1_0 a1_1 a1_2 a1_3 l1_4 = some (r1, r2)) :
  Calls Try.prog 104 #[.pointer (some ⟨g, 0, none⟩), .agg #[.int .i64 a1_0, .string a1_1, .string a1_2, .string a1_3, .slice A1_4 l1_4.length c1_4]] w fun e w' => e = .returned (.string r1) ∧ IsS74 w0 w' g s0_0 r2 ∧ Below w0.heap.size w0 w' ∧ KeepBut w w' g none := by
 have hu25 := Try.underlying25
 have HR1_4 := am hr1_4
 have HC1_4 := am hc1_4
 clear hr1_4 hc1_4
 have HI0 := am hI
 have HK := am (KeepBut.refl w g none)
 have HL := am hB.size
 clear hI
 have HW0 := am hB.size
 have HB := am hB
 clear hB
 unfold print_printer_verb.f at h
 have H := h
 clear h
 by_cases c3 : a1_1.toList = ([123] : List UInt8)
 ·rw [if_pos c3] at H
  have c3b0 := eT c3
  have c3b1 := nF c3
  clear c3
  obtain ⟨⟨t1200, t1201⟩, A4, H⟩ := bO H
  try dsimp only at H
  by_cases c5 : 1 + t1200.size ≤ 9223372036854775807
  ·rw [if_pos c5] at H
   have c5b0 := eq_true c5
   have c5b1 : decide (1 + t1200.size ≤ 9223372036854775807) = true := decide_eq_true c5
   try have c5b2 : (9223372036854775807 < 1 + t1200.size) = False := eq_false (Nat.not_lt.2 c5)
   by_cases c6 : ((⟨#[123]⟩ : ByteArray) ++ t1200).size + 1 ≤ 9223372036854775807
   ·rw [if_pos c6] at H
    have c6b0 := eq_true c6
    have c6b1 : decide (((⟨#[123]⟩ : ByteArray) ++ t1200).size + 1 ≤ 9223372036854775807) = true := decide_eq_true c6
    try have c6b2 : (9223372036854775807 < ((⟨#[123]⟩ : ByteArray) ++ t1200).size + 1) = False := eq_false (Nat.not_lt.2 c6)
    try have c6b3 : (9223372036854775807 < 1 + t1200.size + 1) = False := eq_false (Nat.not_lt.2 (by have h_ := c6; simp only [ByteArray.size_append] at h_; exact h_))
    by_cases c7 : (((⟨#[123]⟩ : ByteArray) ++ t1200) ++ (⟨#[125]⟩ : ByteArray)).size + a1_2.size ≤ 9223372036854775807
    ·rw [if_pos c7] at H
     have c7b0 := eq_true c7
     have c7b1 : decide ((((⟨#[123]⟩ : ByteArray) ++ t1200) ++ (⟨#[125]⟩ : ByteArray)).size + a1_2.size ≤ 9223372036854775807) = true := decide_eq_true c7
     try have c7b2 : (9223372036854775807 < (((⟨#[123]⟩ : ByteArray) ++ t1200) ++ (⟨#[125]⟩ : ByteArray)).size + a1_2.size) = False := eq_false (Nat.not_lt.2 c7)
     try have c7b3 : (9223372036854775807 < 1 + t1200.size + 1 + a1_2.size) = False := eq_false (Nat.not_lt.2 (by have h_ := c7; simp only [ByteArray.size_append] at h_; exact h_))
     simp only [Option.some.injEq, Prod.mk.injEq] at H
     obtain ⟨rfl, rfl⟩ := H
     go_enter Try.func104, Try.ntmps104
     try go_wp2_with ((with_reducible refine gD 3 rfl ?_); refine bx 3 #[.int .i64 a1_0, .string a1_1, .string a1_2, .string a1_3, .slice A1_4 l1_4.length c1_4] 25 ?_; intro gb1199 hg w8 hbox hb; replace HB := am (below_step (kLIT HB) hb); have BK1199 := am hbox; have GW1199 := am ((by rw [hg]; exact (keep_size (w := w) (g := g) (row := none) (kK HK)) : w.heap.size ≤ gb1199)); have GE1199 := am ((Nat.le_trans HW0.out (by rw [hg]; exact (keep_size (w := w) (g := g) (row := none) (kK HK)) : w.heap.size ≤ gb1199) : w0.heap.size ≤ gb1199)); replace HK := am (KeepBut.trans (kK HK) (KeepBut.of_below hb g none) (.inl rfl)); have NB0_1199 := am ((by rw [hg]; exact Nat.ne_of_lt (IsS74.lt (show IsS74 w0 _ g s0_0 s0_1 from yIT)) : g ≠ gb1199)); have NB1199_0 := am ((by rw [hg]; exact Nat.ne_of_gt (IsS74.lt (show IsS74 w0 _ g s0_0 s0_1 from yIT)) : gb1199 ≠ g)); replace HI0 := am (IsS74.below yIT hb); clear hb hbox hg; have hnb9 := NB1199_0.out; have hnc9 := NB0_1199.out; obtain ⟨hcz10_0, hcz10_1, hcz10_2, hcz10_3, hcz10_4, hfz10_0, hfz10_1, hfz10_2, hfz10_3, hfz10_4⟩ := bk5 BK1199.out)
     replace BK1199 := am (bD BK1199.out)
     replace HI0 := am (IsS74.drew HI0.out)
     replace HK := am (keep_drew HK.out)
     replace HB := am (lD HB.out)
     refine start_ (n := 8) (S := fun w' => w'.cell? ⟨gb1199, 0, none⟩ = some (.int .i64 a1_0) ∧ w'.cell? ⟨gb1199, 1, none⟩ = some (.string a1_1) ∧ w'.cell? ⟨gb1199, 2, none⟩ = some (.string a1_2) ∧ w'.cell? ⟨gb1199, 3, none⟩ = some (.string a1_3) ∧ w'.cell? ⟨gb1199, 4, none⟩ = some (.slice A1_4 l1_4.length c1_4)) (ds := []) #[false, false, false, false, false, false, false, false] (by kernel_rfl) rfl rfl ⟨(blk_cell BK1199.out 0).trans rfl, (blk_cell BK1199.out 1).trans rfl, (blk_cell BK1199.out 2).trans rfl, (blk_cell BK1199.out 3).trans rfl, (blk_cell BK1199.out 4).trans rfl⟩ (fun hHeld => ?_); refine with_tabW print_printer_verb.tab2 print_printer_verb.bits2 (fun HT_ HW_ => ?_)
     generalize w8.drew = w11 at BK1199 HI0 HK HB hHeld ⊢
     refine pure_ (i := 0) (N := some 9) (v := ?_) (a' := ?_) #[true, false, false, false, false, false, false, false] rfl rfl (any_of HT_.out (by kernel_rfl)) (fun _ _ _ h => h) (Or.inl ⟨by rfl, ?_⟩) ?_ ?_
     rotate_left
     ·intro w'
      go_simp
      with_reducible rfl
     rotate_left
     ·simp only [Act.put, zT, z0, zS, i64_w, i32_w]
      rfl
     refine pure_ (i := 4) (N := some 13) (v := ?_) (a' := ?_) #[true, false, false, false, true, false, false, false] rfl rfl (any_of HT_.out (by kernel_rfl)) (fun _ _ _ h => h) (Or.inl ⟨by rfl, ?_⟩) ?_ ?_
     rotate_left
     ·intro w'
      go_simp
      with_reducible rfl
     rotate_left
     ·simp only [Act.put, zT, z0, zS, i64_w, i32_w]
      rfl
     refine take_ (i := 5) (N := some 14) (v := ?_) (a' := ?_) #[true, false, false, false, true, true, false, false] rfl rfl (take_ofW HT_.out HW_.out (by kernel_rfl)) (fun _ _ _ h => h) (Or.inl ⟨by rfl, ?_⟩) hHeld ?_ ?_
     rotate_left
     ·rintro w' ⟨s0, s1, s2, s3, s4⟩
      go_simp
      with_reducible rfl
     rotate_left
     ·simp only [Act.put, zT, z0, zS, i64_w, i32_w]
      rfl
     refine one_ (i := 1) (N := some 10) #[true, true, false, false, true, true, false, false] rfl rfl (one_of HT_.out (by kernel_rfl)) (by decide) (fun K hK => ?_)
     refine goes_ Try.func54 (by kernel_rfl) rfl #[.pointer (some ⟨g, 0, none⟩)] (by rfl) rfl rfl yA ?_
     with_reducible refine (NXC.out _ _ _ _ _ w0 _ ?side1 ?side2 A4.out).mono ?_
     (case side1 => exact yIT)
     (case side2 => exact (kLIT HB))
     rintro e w12 ⟨rfl, hi, hb, hk⟩
     refine ⟨_, rfl, ?_⟩
     replace BK1199 := am (KeepBut.blk hk (kB BK1199) NB1199_0.out (by simp))
     replace HK := am (KeepBut.trans (kK HK) hk (.inl rfl))
     replace HB := am hb
     replace HI0 := am hi
     (try clear hb)
     (try clear hb2)
     (try clear hk)
     (try clear hi)
     refine hK.out _ _ ⟨(blk_cell BK1199.out 0).trans rfl, (blk_cell BK1199.out 1).trans rfl, (blk_cell BK1199.out 2).trans rfl, (blk_cell BK1199.out 3).trans rfl, (blk_cell BK1199.out 4).trans rfl⟩ (fun hHeld => ?_)
     clear hK K
     refine norm_ (a' := ?_) ?_ ?_
     rotate_left
     ·show Act.put _ (some 10) _ = _
      simp only [Act.put, zT, z0, zS, i64_w, i32_w]
      rfl
     refine pure_ (i := 2) (N := some 11) (v := ?_) (a' := ?_) #[true, true, true, false, true, true, false, false] rfl rfl (any_of HT_.out (by kernel_rfl)) (fun _ _ _ h => h) (Or.inl ⟨by rfl, ?_⟩) ?_ ?_
     rotate_left
     ·intro w'
      go_simp
      with_reducible rfl
     rotate_left
     ·simp only [Act.put, zT, z0, zS, i64_w, i32_w]
      rfl
     refine pure_ (i := 3) (N := some 12) (v := ?_) (a' := ?_) #[true, true, true, true, true, true, false, false] rfl rfl (any_of HT_.out (by kernel_rfl)) (fun _ _ _ h => h) (Or.inl ⟨by rfl, ?_⟩) ?_ ?_
     rotate_left
     ·intro w'
      go_simp
      with_reducible rfl
     rotate_left
     ·simp only [Act.put, zT, z0, zS, i64_w, i32_w]
      rfl
     refine pure_ (i := 6) (N := some 15) (v := ?_) (a' := ?_) #[true, true, true, true, true, true, true, false] rfl rfl (any_of HT_.out (by kernel_rfl)) (fun _ _ _ h => h) (Or.inl ⟨by rfl, ?_⟩) ?_ ?_
     rotate_left
     ·intro w'
      go_simp
      with_reducible rfl
     rotate_left
     ·simp only [Act.put, zT, z0, zS, i64_w, i32_w]
      rfl
     refine pure_ (i := 7) (N := some 4) (v := ?_) (a' := ?_) #[true, true, true, true, true, true, true, true] rfl rfl (any_of HT_.out (by kernel_rfl)) (fun _ _ _ h => h) (Or.inl ⟨by rfl, ?_⟩) ?_ ?_
     rotate_left
     ·intro w'
      go_simp
      with_reducible rfl
     rotate_left
     ·simp only [Act.put, zT, z0, zS, i64_w, i32_w]
      rfl
     refine done_ (done_of HT_.out (by kernel_rfl)) ?_
     try go_wp2
     go_ret
     exact ⟨yE, yIT, (kLIT HB), (kK HK)⟩
    ·rw [if_neg c7] at H
     exact absurd H (by simp)
   ·rw [if_neg c6] at H
    exact absurd H (by simp)
  ·rw [if_neg c5] at H
   exact absurd H (by simp)
 ·rw [if_neg c3] at H
  have c3b0 := eF c3
  have c3b1 := nT c3
  by_cases c13 : 0 < (a1_1.size : Int)
  ·rw [if_pos c13] at H
   have c13b0 : decide (0 < (a1_1.size : Int)) = true := decide_eq_true c13
   have c13b1 : decide (0 < a1_1.size) = true := decide_eq_true (by omega)
   clear c13
   by_cases c15 : (bt a1_1 0) ≥ 65
   ·rw [if_pos c15] at H
    have c15b0 : decide (65 ≤ (bt a1_1 0)) = true := decide_eq_true c15
    clear c15
    by_cases c17 : (bt a1_1 0) ≤ 90
    ·rw [if_pos c17] at H
     have c17b0 : decide ((bt a1_1 0) ≤ 90) = true := decide_eq_true c17
     clear c17
     by_cases c18 : 1 + a1_1.size ≤ 9223372036854775807
     ·rw [if_pos c18] at H
      have c18b0 := eq_true c18
      have c18b1 : decide (1 + a1_1.size ≤ 9223372036854775807) = true := decide_eq_true c18
      try have c18b2 : (9223372036854775807 < 1 + a1_1.size) = False := eq_false (Nat.not_lt.2 c18)
      by_cases c19 : ((⟨#[32]⟩ : ByteArray) ++ a1_1).size + 1 ≤ 9223372036854775807
      ·rw [if_pos c19] at H
       have c19b0 := eq_true c19
       have c19b1 : decide (((⟨#[32]⟩ : ByteArray) ++ a1_1).size + 1 ≤ 9223372036854775807) = true := decide_eq_true c19
       try have c19b2 : (9223372036854775807 < ((⟨#[32]⟩ : ByteArray) ++ a1_1).size + 1) = False := eq_false (Nat.not_lt.2 c19)
       try have c19b3 : (9223372036854775807 < 1 + a1_1.size + 1) = False := eq_false (Nat.not_lt.2 (by have h_ := c19; simp only [ByteArray.size_append] at h_; exact h_))
       by_cases c20 : (((⟨#[32]⟩ : ByteArray) ++ a1_1) ++ (⟨#[32]⟩ : ByteArray)).size + a1_2.size ≤ 9223372036854775807
       ·rw [if_pos c20] at H
        have c20b0 := eq_true c20
        have c20b1 : decide ((((⟨#[32]⟩ : ByteArray) ++ a1_1) ++ (⟨#[32]⟩ : ByteArray)).size + a1_2.size ≤ 9223372036854775807) = true := decide_eq_true c20
        try have c20b2 : (9223372036854775807 < (((⟨#[32]⟩ : ByteArray) ++ a1_1) ++ (⟨#[32]⟩ : ByteArray)).size + a1_2.size) = False := eq_false (Nat.not_lt.2 c20)
        try have c20b3 : (9223372036854775807 < 1 + a1_1.size + 1 + a1_2.size) = False := eq_false (Nat.not_lt.2 (by have h_ := c20; simp only [ByteArray.size_append] at h_; exact h_))
        simp only [Option.some.injEq, Prod.mk.injEq] at H
        obtain ⟨rfl, rfl⟩ := H
        go_enter Try.func104, Try.ntmps104
        go_wp2_with ((with_reducible refine gD 3 rfl ?_); refine bx 3 #[.int .i64 a1_0, .string a1_1, .string a1_2, .string a1_3, .slice A1_4 l1_4.length c1_4] 25 ?_; intro gb1199 hg w21 hbox hb; replace HB := am (below_step (kLIT HB) hb); have BK1199 := am hbox; have GW1199 := am ((by rw [hg]; exact (keep_size (w := w) (g := g) (row := none) (kK HK)) : w.heap.size ≤ gb1199)); have GE1199 := am ((Nat.le_trans HW0.out (by rw [hg]; exact (keep_size (w := w) (g := g) (row := none) (kK HK)) : w.heap.size ≤ gb1199) : w0.heap.size ≤ gb1199)); replace HK := am (KeepBut.trans (kK HK) (KeepBut.of_below hb g none) (.inl rfl)); have NB0_1199 := am ((by rw [hg]; exact Nat.ne_of_lt (IsS74.lt (show IsS74 w0 _ g s0_0 s0_1 from yIT)) : g ≠ gb1199)); have NB1199_0 := am ((by rw [hg]; exact Nat.ne_of_gt (IsS74.lt (show IsS74 w0 _ g s0_0 s0_1 from yIT)) : gb1199 ≠ g)); replace HI0 := am (IsS74.below yIT hb); clear hb hbox hg; have hnb22 := NB1199_0.out; have hnc22 := NB0_1199.out; obtain ⟨hcz23_0, hcz23_1, hcz23_2, hcz23_3, hcz23_4, hfz23_0, hfz23_1, hfz23_2, hfz23_3, hfz23_4⟩ := bk5 BK1199.out; have p14 : 0 ≤ (0 : Int) := (by omega); have q14 : 0 < a1_1.size := (by have : (0 : Int) < (a1_1.size : Int) := of_decide_eq_true yY; omega); have hx14 : ∀ h : 0 < a1_1.size, ((a1_1[0]'h).toNat : Int) = bt a1_1 0 := bt_at a1_1 0; clear p14; have qi14 : (0 < (a1_1.size : Int)) = True := eq_true (of_decide_eq_true yY); replace q14 := eq_true q14; have p16 : 0 ≤ (0 : Int) := (by omega); have q16 : 0 < a1_1.size := (by have : (0 : Int) < (a1_1.size : Int) := of_decide_eq_true yY; omega); have hx16 : ∀ h : 0 < a1_1.size, ((a1_1[0]'h).toNat : Int) = bt a1_1 0 := bt_at a1_1 0; clear p16; have qi16 : (0 < (a1_1.size : Int)) = True := eq_true (of_decide_eq_true yY); replace q16 := eq_true q16)
        go_ret
        exact ⟨yE, yIT, (kLIT HB), (kK HK)⟩
       ·rw [if_neg c20] at H
        exact absurd H (by simp)
      ·rw [if_neg c19] at H
       exact absurd H (by simp)
     ·rw [if_neg c18] at H
      exact absurd H (by simp)
    ·rw [if_neg c17] at H
     have c17b0 : decide ((bt a1_1 0) ≤ 90) = false := decide_eq_false c17
     clear c17
     by_cases c24 : a1_1.size + a1_2.size ≤ 9223372036854775807
     ·rw [if_pos c24] at H
      have c24b0 := eq_true c24
      have c24b1 : decide (a1_1.size + a1_2.size ≤ 9223372036854775807) = true := decide_eq_true c24
      try have c24b2 : (9223372036854775807 < a1_1.size + a1_2.size) = False := eq_false (Nat.not_lt.2 c24)
      simp only [Option.some.injEq, Prod.mk.injEq] at H
      obtain ⟨rfl, rfl⟩ := H
      go_enter Try.func104, Try.ntmps104
      go_wp2_with ((with_reducible refine gD 3 rfl ?_); refine bx 3 #[.int .i64 a1_0, .string a1_1, .string a1_2, .string a1_3, .slice A1_4 l1_4.length c1_4] 25 ?_; intro gb1199 hg w25 hbox hb; replace HB := am (below_step (kLIT HB) hb); have BK1199 := am hbox; have GW1199 := am ((by rw [hg]; exact (keep_size (w := w) (g := g) (row := none) (kK HK)) : w.heap.size ≤ gb1199)); have GE1199 := am ((Nat.le_trans HW0.out (by rw [hg]; exact (keep_size (w := w) (g := g) (row := none) (kK HK)) : w.heap.size ≤ gb1199) : w0.heap.size ≤ gb1199)); replace HK := am (KeepBut.trans (kK HK) (KeepBut.of_below hb g none) (.inl rfl)); have NB0_1199 := am ((by rw [hg]; exact Nat.ne_of_lt (IsS74.lt (show IsS74 w0 _ g s0_0 s0_1 from yIT)) : g ≠ gb1199)); have NB1199_0 := am ((by rw [hg]; exact Nat.ne_of_gt (IsS74.lt (show IsS74 w0 _ g s0_0 s0_1 from yIT)) : gb1199 ≠ g)); replace HI0 := am (IsS74.below yIT hb); clear hb hbox hg; have hnb26 := NB1199_0.out; have hnc26 := NB0_1199.out; obtain ⟨hcz27_0, hcz27_1, hcz27_2, hcz27_3, hcz27_4, hfz27_0, hfz27_1, hfz27_2, hfz27_3, hfz27_4⟩ := bk5 BK1199.out; have p14 : 0 ≤ (0 : Int) := (by omega); have q14 : 0 < a1_1.size := (by have : (0 : Int) < (a1_1.size : Int) := of_decide_eq_true yY; omega); have hx14 : ∀ h : 0 < a1_1.size, ((a1_1[0]'h).toNat : Int) = bt a1_1 0 := bt_at a1_1 0; clear p14; have qi14 : (0 < (a1_1.size : Int)) = True := eq_true (of_decide_eq_true yY); replace q14 := eq_true q14; have p16 : 0 ≤ (0 : Int) := (by omega); have q16 : 0 < a1_1.size := (by have : (0 : Int) < (a1_1.size : Int) := of_decide_eq_true yY; omega); have hx16 : ∀ h : 0 < a1_1.size, ((a1_1[0]'h).toNat : Int) = bt a1_1 0 := bt_at a1_1 0; clear p16; have qi16 : (0 < (a1_1.size : Int)) = True := eq_true (of_decide_eq_true yY); replace q16 := eq_true q16)
      go_ret
      exact ⟨yE, yIT, (kLIT HB), (kK HK)⟩
     ·rw [if_neg c24] at H
      exact absurd H (by simp)
   ·rw [if_neg c15] at H
    have c15b0 : decide (65 ≤ (bt a1_1 0)) = false := decide_eq_false c15
    clear c15
    by_cases c28 : a1_1.size + a1_2.size ≤ 9223372036854775807
    ·rw [if_pos c28] at H
     have c28b0 := eq_true c28
     have c28b1 : decide (a1_1.size + a1_2.size ≤ 9223372036854775807) = true := decide_eq_true c28
     try have c28b2 : (9223372036854775807 < a1_1.size + a1_2.size) = False := eq_false (Nat.not_lt.2 c28)
     simp only [Option.some.injEq, Prod.mk.injEq] at H
     obtain ⟨rfl, rfl⟩ := H
     go_enter Try.func104, Try.ntmps104
     go_wp2_with ((with_reducible refine gD 3 rfl ?_); refine bx 3 #[.int .i64 a1_0, .string a1_1, .string a1_2, .string a1_3, .slice A1_4 l1_4.length c1_4] 25 ?_; intro gb1199 hg w29 hbox hb; replace HB := am (below_step (kLIT HB) hb); have BK1199 := am hbox; have GW1199 := am ((by rw [hg]; exact (keep_size (w := w) (g := g) (row := none) (kK HK)) : w.heap.size ≤ gb1199)); have GE1199 := am ((Nat.le_trans HW0.out (by rw [hg]; exact (keep_size (w := w) (g := g) (row := none) (kK HK)) : w.heap.size ≤ gb1199) : w0.heap.size ≤ gb1199)); replace HK := am (KeepBut.trans (kK HK) (KeepBut.of_below hb g none) (.inl rfl)); have NB0_1199 := am ((by rw [hg]; exact Nat.ne_of_lt (IsS74.lt (show IsS74 w0 _ g s0_0 s0_1 from yIT)) : g ≠ gb1199)); have NB1199_0 := am ((by rw [hg]; exact Nat.ne_of_gt (IsS74.lt (show IsS74 w0 _ g s0_0 s0_1 from yIT)) : gb1199 ≠ g)); replace HI0 := am (IsS74.below yIT hb); clear hb hbox hg; have hnb30 := NB1199_0.out; have hnc30 := NB0_1199.out; obtain ⟨hcz31_0, hcz31_1, hcz31_2, hcz31_3, hcz31_4, hfz31_0, hfz31_1, hfz31_2, hfz31_3, hfz31_4⟩ := bk5 BK1199.out; have p14 : 0 ≤ (0 : Int) := (by omega); have q14 : 0 < a1_1.size := (by have : (0 : Int) < (a1_1.size : Int) := of_decide_eq_true yY; omega); have hx14 : ∀ h : 0 < a1_1.size, ((a1_1[0]'h).toNat : Int) = bt a1_1 0 := bt_at a1_1 0; clear p14; have qi14 : (0 < (a1_1.size : Int)) = True := eq_true (of_decide_eq_true yY); replace q14 := eq_true q14)
     go_ret
     exact ⟨yE, yIT, (kLIT HB), (kK HK)⟩
    ·rw [if_neg c28] at H
     exact absurd H (by simp)
  ·rw [if_neg c13] at H
   exact absurd H (by simp)
def print_printer_monad.f (NXF : NX_F) (s0_0 : List (S25)) (s0_1 : Int) (a1_0 : Int) (a1_1 : ByteArray) (a1_2 : ByteArray) (a1_3 : ByteArray) (l1_4 : List ByteArray) : Option (ByteArray × Int) := (print_printer_verb.f NXF s0_0 s0_1 a1_0 a1_1 a1_2 a1_3 l1_4).bind fun bt1203 => ((NXF s0_0 bt1203.2).bind fun bt1205 => (if bt1203.1.size + bt1205.1.size ≤ 9223372036854775807 then (some (bt1203.1 ++ bt1205.1, bt1205.2)) else (none)))
set_option maxHeartbeats 8000000 in
set_option maxRecDepth 100000 in
theorem print_printer_monad.calls (NXF : NX_F) (NXC : NX_C NXF) (g : Nat) (s0_0 : List (S25)) (s0_1 : Int) (a1_0 : Int) (a1_1 : ByteArray) (a1_2 : ByteArray) (a1_3 : ByteArray) (A1_4 : Option Addr) (c1_4 : Nat) (l1_4 : List ByteArray) (r1 : ByteArray) (r2 : Int) (w0 w : World) (hI : IsS74 w0 w g s0_0 s0_1) (hB : Below w0.heap.size w0 w) (hr1_4 : Kd.C Kd.string w A1_4 l1_4.length l1_4) (hc1_4 : l1_4.length ≤ c1_4) (hf1_4 : ∀ ad, A1_4 = some ad → 0 < l1_4.length → ad.block ≠ g) (h : print_printer_monad.f NXF s0_0 s0_1 a1_0 a1_1 a1_2 a1_3 l1_4 = some (r1, r2)) :
  Calls Try.prog 73 #[.pointer (some ⟨g, 0, none⟩), .agg #[.int .i64 a1_0, .string a1_1, .string a1_2, .string a1_3, .slice A1_4 l1_4.length c1_4]] w fun e w' => e = .returned (.string r1) ∧ IsS74 w0 w' g s0_0 r2 ∧ Below w0.heap.size w0 w' ∧ KeepBut w w' g none := by
 have hu25 := Try.underlying25
 have HR1_4 := am hr1_4
 have HC1_4 := am hc1_4
 clear hr1_4 hc1_4
 have HI0 := am hI
 have HK := am (KeepBut.refl w g none)
 have HL := am hB.size
 clear hI
 have HW0 := am hB.size
 have HB := am hB
 clear hB
 unfold print_printer_monad.f at h
 have H := h
 clear h
 obtain ⟨⟨t1203, t1204⟩, A3, H⟩ := bO H
 try dsimp only at H
 obtain ⟨⟨t1205, t1206⟩, A4, H⟩ := bO H
 try dsimp only at H
 by_cases c5 : t1203.size + t1205.size ≤ 9223372036854775807
 ·rw [if_pos c5] at H
  have c5b0 := eq_true c5
  have c5b1 : decide (t1203.size + t1205.size ≤ 9223372036854775807) = true := decide_eq_true c5
  try have c5b2 : (9223372036854775807 < t1203.size + t1205.size) = False := eq_false (Nat.not_lt.2 c5)
  simp only [Option.some.injEq, Prod.mk.injEq] at H
  obtain ⟨rfl, rfl⟩ := H
  go_enter Try.func73, Try.ntmps73
  go_wp2_with (first | ((with_reducible refine gD 3 rfl ?_); refine bx 3 #[.int .i64 a1_0, .string a1_1, .string a1_2, .string a1_3, .slice A1_4 l1_4.length c1_4] 25 ?_; intro gb1202 hg w6 hbox hb; replace HB := am (below_step (kLIT HB) hb); have BK1202 := am hbox; have GW1202 := am ((by rw [hg]; exact (keep_size (w := w) (g := g) (row := none) (kK HK)) : w.heap.size ≤ gb1202)); have GE1202 := am ((Nat.le_trans HW0.out (by rw [hg]; exact (keep_size (w := w) (g := g) (row := none) (kK HK)) : w.heap.size ≤ gb1202) : w0.heap.size ≤ gb1202)); replace HK := am (KeepBut.trans (kK HK) (KeepBut.of_below hb g none) (.inl rfl)); have NB0_1202 := am ((by rw [hg]; exact Nat.ne_of_lt (IsS74.lt (show IsS74 w0 _ g s0_0 s0_1 from yIT)) : g ≠ gb1202)); have NB1202_0 := am ((by rw [hg]; exact Nat.ne_of_gt (IsS74.lt (show IsS74 w0 _ g s0_0 s0_1 from yIT)) : gb1202 ≠ g)); replace HI0 := am (IsS74.below yIT hb); clear hb hbox hg; have hnb7 := NB1202_0.out; have hnc7 := NB0_1202.out; obtain ⟨hcz8_0, hcz8_1, hcz8_2, hcz8_3, hcz8_4, hfz8_0, hfz8_1, hfz8_2, hfz8_3, hfz8_4⟩ := bk5 BK1202.out) | ((with_reducible refine gC 104 rfl ?_); refine gL (some 8) Try.func104 #[.pointer (some ⟨g, 0, none⟩), .agg #[.int .i64 a1_0, .string a1_1, .string a1_2, .string a1_3, .slice A1_4 l1_4.length c1_4]] ?_; (with_reducible refine (print_printer_verb.calls NXF NXC _ _ _ _ _ _ _ _ _ _ _ _ w0 _ ?side1 ?side2 ?side3 ?side4 ?side5 A3.out).mono ?_); (case side1 => exact yIT); (case side2 => exact (kLIT HB)); (case side3 => exact Kd.C_keep (⟨#[]⟩ : ByteArray) HR1_4.out (kK HK) hf1_4); (case side4 => exact HC1_4.out); (case side5 => exact hf1_4); rintro e w9 ⟨rfl, hi, hb, hk⟩; refine ⟨_, rfl, ?_⟩; replace BK1202 := am (KeepBut.blk hk (kB BK1202) NB1202_0.out (by simp)); replace HK := am (KeepBut.trans (kK HK) hk (.inl rfl)); replace HB := am hb; replace HI0 := am hi; (try clear hi hb hk)) | ((with_reducible refine gC 54 rfl ?_); refine gL (some 11) Try.func54 #[.pointer (some ⟨g, 0, none⟩)] ?_; (with_reducible refine (NXC.out _ _ _ _ _ w0 _ ?side1 ?side2 A4.out).mono ?_); (case side1 => exact yIT); (case side2 => exact (kLIT HB)); rintro e w10 ⟨rfl, hi, hb, hk⟩; refine ⟨_, rfl, ?_⟩; replace BK1202 := am (KeepBut.blk hk (kB BK1202) NB1202_0.out (by simp)); replace HK := am (KeepBut.trans (kK HK) hk (.inl rfl)); replace HB := am hb; replace HI0 := am hi; (try clear hi hb hk)))
  go_ret
  exact ⟨yE, yIT, (kLIT HB), (kK HK)⟩
 ·rw [if_neg c5] at H
  exact absurd H (by simp)
def print_printer_inner.f (NXF : NX_F) (s0_0 : List (S25)) (s0_1 : Int) : Option (ByteArray × Int) := if 0 ≤ s0_1 then (if s0_1 < (s0_0.length : Int) then ((NXF s0_0 s0_1).bind fun bt1208 => (if ((rd_T25 s0_0 s0_1).f0) = 3 then (if 1 + bt1208.1.size ≤ 9223372036854775807 then (if ((⟨#[40]⟩ : ByteArray) ++ bt1208.1).size + 1 ≤ 9223372036854775807 then (some (((⟨#[40]⟩ : ByteArray) ++ bt1208.1) ++ (⟨#[41]⟩ : ByteArray), bt1208.2)) else (none)) else (none)) else (if ((rd_T25 s0_0 s0_1).f0) = 4 then (if 1 + bt1208.1.size ≤ 9223372036854775807 then (if ((⟨#[40]⟩ : ByteArray) ++ bt1208.1).size + 1 ≤ 9223372036854775807 then (some (((⟨#[40]⟩ : ByteArray) ++ bt1208.1) ++ (⟨#[41]⟩ : ByteArray), bt1208.2)) else (none)) else (none)) else (some (bt1208.1, bt1208.2))))) else (none)) else (none)
set_option maxHeartbeats 8000000 in
set_option maxRecDepth 100000 in
theorem print_printer_inner.calls (NXF : NX_F) (NXC : NX_C NXF) (g : Nat) (s0_0 : List (S25)) (s0_1 : Int) (r1 : ByteArray) (r2 : Int) (w0 w : World) (hI : IsS74 w0 w g s0_0 s0_1) (hB : Below w0.heap.size w0 w) (h : print_printer_inner.f NXF s0_0 s0_1 = some (r1, r2)) :
  Calls Try.prog 105 #[.pointer (some ⟨g, 0, none⟩)] w fun e w' => e = .returned (.string r1) ∧ IsS74 w0 w' g s0_0 r2 ∧ Below w0.heap.size w0 w' ∧ KeepBut w w' g none := by
 have HI0 := am hI
 have HK := am (KeepBut.refl w g none)
 have HL := am hB.size
 clear hI
 have HW0 := am hB.size
 have HB := am hB
 clear hB
 unfold print_printer_inner.f at h
 have H := h
 clear h
 by_cases c2 : 0 ≤ s0_1
 ·rw [if_pos c2] at H
  have c2b0 : decide (0 ≤ s0_1) = true := decide_eq_true c2
  clear c2
  by_cases c3 : s0_1 < (s0_0.length : Int)
  ·rw [if_pos c3] at H
   have c3b0 : decide (s0_1 < (s0_0.length : Int)) = true := decide_eq_true c3
   clear c3
   obtain ⟨⟨t1208, t1209⟩, A4, H⟩ := bO H
   try dsimp only at H
   by_cases c5 : ((rd_T25 s0_0 s0_1).f0) = 3
   ·rw [if_pos c5] at H
    have c5b0 : (((rd_T25 s0_0 s0_1).f0) == 3) = true := beq_iff_eq.mpr c5
    have c5b1 : (((rd_T25 s0_0 s0_1).f0) != 3) = false := bne_eq_false_iff_eq.mpr c5
    clear c5
    by_cases c6 : 1 + t1208.size ≤ 9223372036854775807
    ·rw [if_pos c6] at H
     have c6b0 := eq_true c6
     have c6b1 : decide (1 + t1208.size ≤ 9223372036854775807) = true := decide_eq_true c6
     try have c6b2 : (9223372036854775807 < 1 + t1208.size) = False := eq_false (Nat.not_lt.2 c6)
     by_cases c7 : ((⟨#[40]⟩ : ByteArray) ++ t1208).size + 1 ≤ 9223372036854775807
     ·rw [if_pos c7] at H
      have c7b0 := eq_true c7
      have c7b1 : decide (((⟨#[40]⟩ : ByteArray) ++ t1208).size + 1 ≤ 9223372036854775807) = true := decide_eq_true c7
      try have c7b2 : (9223372036854775807 < ((⟨#[40]⟩ : ByteArray) ++ t1208).size + 1) = False := eq_false (Nat.not_lt.2 c7)
      try have c7b3 : (9223372036854775807 < 1 + t1208.size + 1) = False := eq_false (Nat.not_lt.2 (by have h_ := c7; simp only [ByteArray.size_append] at h_; exact h_))
      simp only [Option.some.injEq, Prod.mk.injEq] at H
      obtain ⟨rfl, rfl⟩ := H
      obtain ⟨ASz8_0, cSz8_0, HSz8_0, hcz8_0, hcz8_1, hfz8_1⟩ := IsS74.look HI0.out
      have p1207 : 0 ≤ (s0_1 : Int) := of_decide_eq_true yY
      have q1207 : s0_1 < (s0_0.length : Int) := of_decide_eq_true yY
      obtain ⟨ad1207, A1207_4, c1207_4, e1207, hx1207_0, hx1207_1, hx1207_2, hx1207_3, hx1207_4, hl1207_4, hi1207_4⟩ := at_T25 HSz8_0 s0_1 p1207 q1207
      cases e1207
      replace hx1207_0 := pw_cell_below HB.out hx1207_0
      replace hx1207_1 := pw_cell_below HB.out hx1207_1
      replace hx1207_2 := pw_cell_below HB.out hx1207_2
      replace hx1207_3 := pw_cell_below HB.out hx1207_3
      replace hx1207_4 := pw_cell_below HB.out hx1207_4
      have HR1207_4 := am hi1207_4
      have HC1207_4 := am hl1207_4
      clear hi1207_4 hl1207_4
      replace p1207 := eq_true p1207
      replace q1207 := eq_true q1207
      go_enter Try.func105, Try.ntmps105
      go_wp2_with (go_at_call 54; (with_reducible refine (NXC.out _ _ _ _ _ w0 _ ?side1 ?side2 A4.out).mono ?_); (case side1 => exact yIT); (case side2 => exact (kLIT HB)); rintro e w9 ⟨rfl, hi, hb, hk⟩; replace HK := am (KeepBut.trans (kK HK) hk (.inl rfl)); replace HB := am hb; replace HI0 := am hi; (try clear hi hb hk))
      repeat (go_quiet (first | (go_at_call 54; (with_reducible refine (NXC.out _ _ _ _ _ w0 _ ?side1 ?side2 A4.out).mono ?_); (case side1 => exact yIT); (case side2 => exact (kLIT HB)); rintro e w9 ⟨rfl, hi, hb, hk⟩; replace HK := am (KeepBut.trans (kK HK) hk (.inl rfl)); replace HB := am hb; replace HI0 := am hi; (try clear hi hb hk))); try go_wp2_with (go_at_call 54; (with_reducible refine (NXC.out _ _ _ _ _ w0 _ ?side1 ?side2 A4.out).mono ?_); (case side1 => exact yIT); (case side2 => exact (kLIT HB)); rintro e w9 ⟨rfl, hi, hb, hk⟩; replace HK := am (KeepBut.trans (kK HK) hk (.inl rfl)); replace HB := am hb; replace HI0 := am hi; (try clear hi hb hk)))
      go_ret
      exact ⟨yE, yIT, (kLIT HB), (kK HK)⟩
     ·rw [if_neg c7] at H
      exact absurd H (by simp)
    ·rw [if_neg c6] at H
     exact absurd H (by simp)
   ·rw [if_neg c5] at H
    have c5b0 : (((rd_T25 s0_0 s0_1).f0) == 3) = false := beq_eq_false_iff_ne.mpr c5
    have c5b1 : (((rd_T25 s0_0 s0_1).f0) != 3) = true := bne_iff_ne.mpr c5
    by_cases c10 : ((rd_T25 s0_0 s0_1).f0) = 4
    ·rw [if_pos c10] at H
     have c10b0 : (((rd_T25 s0_0 s0_1).f0) == 4) = true := beq_iff_eq.mpr c10
     have c10b1 : (((rd_T25 s0_0 s0_1).f0) != 4) = false := bne_eq_false_iff_eq.mpr c10
     clear c10
     by_cases c11 : 1 + t1208.size ≤ 9223372036854775807
     ·rw [if_pos c11] at H
      have c11b0 := eq_true c11
      have c11b1 : decide (1 + t1208.size ≤ 9223372036854775807) = true := decide_eq_true c11
      try have c11b2 : (9223372036854775807 < 1 + t1208.size) = False := eq_false (Nat.not_lt.2 c11)
      by_cases c12 : ((⟨#[40]⟩ : ByteArray) ++ t1208).size + 1 ≤ 9223372036854775807
      ·rw [if_pos c12] at H
       have c12b0 := eq_true c12
       have c12b1 : decide (((⟨#[40]⟩ : ByteArray) ++ t1208).size + 1 ≤ 9223372036854775807) = true := decide_eq_true c12
       try have c12b2 : (9223372036854775807 < ((⟨#[40]⟩ : ByteArray) ++ t1208).size + 1) = False := eq_false (Nat.not_lt.2 c12)
       try have c12b3 : (9223372036854775807 < 1 + t1208.size + 1) = False := eq_false (Nat.not_lt.2 (by have h_ := c12; simp only [ByteArray.size_append] at h_; exact h_))
       simp only [Option.some.injEq, Prod.mk.injEq] at H
       obtain ⟨rfl, rfl⟩ := H
       obtain ⟨ASz13_0, cSz13_0, HSz13_0, hcz13_0, hcz13_1, hfz13_1⟩ := IsS74.look HI0.out
       have p1207 : 0 ≤ (s0_1 : Int) := of_decide_eq_true yY
       have q1207 : s0_1 < (s0_0.length : Int) := of_decide_eq_true yY
       obtain ⟨ad1207, A1207_4, c1207_4, e1207, hx1207_0, hx1207_1, hx1207_2, hx1207_3, hx1207_4, hl1207_4, hi1207_4⟩ := at_T25 HSz13_0 s0_1 p1207 q1207
       cases e1207
       replace hx1207_0 := pw_cell_below HB.out hx1207_0
       replace hx1207_1 := pw_cell_below HB.out hx1207_1
       replace hx1207_2 := pw_cell_below HB.out hx1207_2
       replace hx1207_3 := pw_cell_below HB.out hx1207_3
       replace hx1207_4 := pw_cell_below HB.out hx1207_4
       have HR1207_4 := am hi1207_4
       have HC1207_4 := am hl1207_4
       clear hi1207_4 hl1207_4
       replace p1207 := eq_true p1207
       replace q1207 := eq_true q1207
       go_enter Try.func105, Try.ntmps105
       go_wp2_with (go_at_call 54; (with_reducible refine (NXC.out _ _ _ _ _ w0 _ ?side1 ?side2 A4.out).mono ?_); (case side1 => exact yIT); (case side2 => exact (kLIT HB)); rintro e w14 ⟨rfl, hi, hb, hk⟩; replace HK := am (KeepBut.trans (kK HK) hk (.inl rfl)); replace HB := am hb; replace HI0 := am hi; (try clear hi hb hk))
       repeat (go_quiet (first | (go_at_call 54; (with_reducible refine (NXC.out _ _ _ _ _ w0 _ ?side1 ?side2 A4.out).mono ?_); (case side1 => exact yIT); (case side2 => exact (kLIT HB)); rintro e w14 ⟨rfl, hi, hb, hk⟩; replace HK := am (KeepBut.trans (kK HK) hk (.inl rfl)); replace HB := am hb; replace HI0 := am hi; (try clear hi hb hk))); try go_wp2_with (go_at_call 54; (with_reducible refine (NXC.out _ _ _ _ _ w0 _ ?side1 ?side2 A4.out).mono ?_); (case side1 => exact yIT); (case side2 => exact (kLIT HB)); rintro e w14 ⟨rfl, hi, hb, hk⟩; replace HK := am (KeepBut.trans (kK HK) hk (.inl rfl)); replace HB := am hb; replace HI0 := am hi; (try clear hi hb hk)))
       go_ret
       exact ⟨yE, yIT, (kLIT HB), (kK HK)⟩
      ·rw [if_neg c12] at H
       exact absurd H (by simp)
     ·rw [if_neg c11] at H
      exact absurd H (by simp)
    ·rw [if_neg c10] at H
     have c10b0 : (((rd_T25 s0_0 s0_1).f0) == 4) = false := beq_eq_false_iff_ne.mpr c10
     have c10b1 : (((rd_T25 s0_0 s0_1).f0) != 4) = true := bne_iff_ne.mpr c10
     simp only [Option.some.injEq, Prod.mk.injEq] at H
     obtain ⟨rfl, rfl⟩ := H
     obtain ⟨ASz15_0, cSz15_0, HSz15_0, hcz15_0, hcz15_1, hfz15_1⟩ := IsS74.look HI0.out
     have p1207 : 0 ≤ (s0_1 : Int) := of_decide_eq_true yY
     have q1207 : s0_1 < (s0_0.length : Int) := of_decide_eq_true yY
     obtain ⟨ad1207, A1207_4, c1207_4, e1207, hx1207_0, hx1207_1, hx1207_2, hx1207_3, hx1207_4, hl1207_4, hi1207_4⟩ := at_T25 HSz15_0 s0_1 p1207 q1207
     cases e1207
     replace hx1207_0 := pw_cell_below HB.out hx1207_0
     replace hx1207_1 := pw_cell_below HB.out hx1207_1
     replace hx1207_2 := pw_cell_below HB.out hx1207_2
     replace hx1207_3 := pw_cell_below HB.out hx1207_3
     replace hx1207_4 := pw_cell_below HB.out hx1207_4
     have HR1207_4 := am hi1207_4
     have HC1207_4 := am hl1207_4
     clear hi1207_4 hl1207_4
     replace p1207 := eq_true p1207
     replace q1207 := eq_true q1207
     go_enter Try.func105, Try.ntmps105
     go_wp2_with (go_at_call 54; (with_reducible refine (NXC.out _ _ _ _ _ w0 _ ?side1 ?side2 A4.out).mono ?_); (case side1 => exact yIT); (case side2 => exact (kLIT HB)); rintro e w16 ⟨rfl, hi, hb, hk⟩; replace HK := am (KeepBut.trans (kK HK) hk (.inl rfl)); replace HB := am hb; replace HI0 := am hi; (try clear hi hb hk))
     repeat (go_quiet (first | (go_at_call 54; (with_reducible refine (NXC.out _ _ _ _ _ w0 _ ?side1 ?side2 A4.out).mono ?_); (case side1 => exact yIT); (case side2 => exact (kLIT HB)); rintro e w16 ⟨rfl, hi, hb, hk⟩; replace HK := am (KeepBut.trans (kK HK) hk (.inl rfl)); replace HB := am hb; replace HI0 := am hi; (try clear hi hb hk))); try go_wp2_with (go_at_call 54; (with_reducible refine (NXC.out _ _ _ _ _ w0 _ ?side1 ?side2 A4.out).mono ?_); (case side1 => exact yIT); (case side2 => exact (kLIT HB)); rintro e w16 ⟨rfl, hi, hb, hk⟩; replace HK := am (KeepBut.trans (kK HK) hk (.inl rfl)); replace HB := am hb; replace HI0 := am hi; (try clear hi hb hk)))
     go_ret
     exact ⟨yE, yIT, (kLIT HB), (kK HK)⟩
  ·rw [if_neg c3] at H
   exact absurd H (by simp)
 ·rw [if_neg c2] at H
  exact absurd H (by simp)
def print_printer_dyad.f (NXF : NX_F) (s0_0 : List (S25)) (s0_1 : Int) (a1_0 : Int) (a1_1 : ByteArray) (a1_2 : ByteArray) (a1_3 : ByteArray) (l1_4 : List ByteArray) : Option (ByteArray × Int) := (print_printer_verb.f NXF s0_0 s0_1 a1_0 a1_1 a1_2 a1_3 l1_4).bind fun bt1211 => ((print_printer_inner.f NXF s0_0 bt1211.2).bind fun bt1213 => (if bt1213.1.size + bt1211.1.size ≤ 9223372036854775807 then ((NXF s0_0 bt1213.2).bind fun bt1215 => (if (bt1213.1 ++ bt1211.1).size + bt1215.1.size ≤ 9223372036854775807 then (some ((bt1213.1 ++ bt1211.1) ++ bt1215.1, bt1215.2)) else (none))) else (none)))
set_option maxHeartbeats 8000000 in
set_option maxRecDepth 100000 in
theorem print_printer_dyad.calls (NXF : NX_F) (NXC : NX_C NXF) (g : Nat) (s0_0 : List (S25)) (s0_1 : Int) (a1_0 : Int) (a1_1 : ByteArray) (a1_2 : ByteArray) (a1_3 : ByteArray) (A1_4 : Option Addr) (c1_4 : Nat) (l1_4 : List ByteArray) (r1 : ByteArray) (r2 : Int) (w0 w : World) (hI : IsS74 w0 w g s0_0 s0_1) (hB : Below w0.heap.size w0 w) (hr1_4 : Kd.C Kd.string w A1_4 l1_4.length l1_4) (hc1_4 : l1_4.length ≤ c1_4) (hf1_4 : ∀ ad, A1_4 = some ad → 0 < l1_4.length → ad.block ≠ g) (h : print_printer_dyad.f NXF s0_0 s0_1 a1_0 a1_1 a1_2 a1_3 l1_4 = some (r1, r2)) :
  Calls Try.prog 74 #[.pointer (some ⟨g, 0, none⟩), .agg #[.int .i64 a1_0, .string a1_1, .string a1_2, .string a1_3, .slice A1_4 l1_4.length c1_4]] w fun e w' => e = .returned (.string r1) ∧ IsS74 w0 w' g s0_0 r2 ∧ Below w0.heap.size w0 w' ∧ KeepBut w w' g none := by
 have hu25 := Try.underlying25
 have HR1_4 := am hr1_4
 have HC1_4 := am hc1_4
 clear hr1_4 hc1_4
 have HI0 := am hI
 have HK := am (KeepBut.refl w g none)
 have HL := am hB.size
 clear hI
 have HW0 := am hB.size
 have HB := am hB
 clear hB
 unfold print_printer_dyad.f at h
 have H := h
 clear h
 obtain ⟨⟨t1211, t1212⟩, A3, H⟩ := bO H
 try dsimp only at H
 obtain ⟨⟨t1213, t1214⟩, A4, H⟩ := bO H
 try dsimp only at H
 by_cases c5 : t1213.size + t1211.size ≤ 9223372036854775807
 ·rw [if_pos c5] at H
  have c5b0 := eq_true c5
  have c5b1 : decide (t1213.size + t1211.size ≤ 9223372036854775807) = true := decide_eq_true c5
  try have c5b2 : (9223372036854775807 < t1213.size + t1211.size) = False := eq_false (Nat.not_lt.2 c5)
  obtain ⟨⟨t1215, t1216⟩, A6, H⟩ := bO H
  try dsimp only at H
  by_cases c7 : (t1213 ++ t1211).size + t1215.size ≤ 9223372036854775807
  ·rw [if_pos c7] at H
   have c7b0 := eq_true c7
   have c7b1 : decide ((t1213 ++ t1211).size + t1215.size ≤ 9223372036854775807) = true := decide_eq_true c7
   try have c7b2 : (9223372036854775807 < (t1213 ++ t1211).size + t1215.size) = False := eq_false (Nat.not_lt.2 c7)
   try have c7b3 : (9223372036854775807 < t1213.size + t1211.size + t1215.size) = False := eq_false (Nat.not_lt.2 (by have h_ := c7; simp only [ByteArray.size_append] at h_; exact h_))
   simp only [Option.some.injEq, Prod.mk.injEq] at H
   obtain ⟨rfl, rfl⟩ := H
   go_enter Try.func74, Try.ntmps74
   go_wp2_with (first | ((with_reducible refine gD 3 rfl ?_); refine bx 3 #[.int .i64 a1_0, .string a1_1, .string a1_2, .string a1_3, .slice A1_4 l1_4.length c1_4] 25 ?_; intro gb1210 hg w8 hbox hb; replace HB := am (below_step (kLIT HB) hb); have BK1210 := am hbox; have GW1210 := am ((by rw [hg]; exact (keep_size (w := w) (g := g) (row := none) (kK HK)) : w.heap.size ≤ gb1210)); have GE1210 := am ((Nat.le_trans HW0.out (by rw [hg]; exact (keep_size (w := w) (g := g) (row := none) (kK HK)) : w.heap.size ≤ gb1210) : w0.heap.size ≤ gb1210)); replace HK := am (KeepBut.trans (kK HK) (KeepBut.of_below hb g none) (.inl rfl)); have NB0_1210 := am ((by rw [hg]; exact Nat.ne_of_lt (IsS74.lt (show IsS74 w0 _ g s0_0 s0_1 from yIT)) : g ≠ gb1210)); have NB1210_0 := am ((by rw [hg]; exact Nat.ne_of_gt (IsS74.lt (show IsS74 w0 _ g s0_0 s0_1 from yIT)) : gb1210 ≠ g)); replace HI0 := am (IsS74.below yIT hb); clear hb hbox hg; have hnb9 := NB1210_0.out; have hnc9 := NB0_1210.out; obtain ⟨hcz10_0, hcz10_1, hcz10_2, hcz10_3, hcz10_4, hfz10_0, hfz10_1, hfz10_2, hfz10_3, hfz10_4⟩ := bk5 BK1210.out) | ((with_reducible refine gC 104 rfl ?_); refine gL (some 9) Try.func104 #[.pointer (some ⟨g, 0, none⟩), .agg #[.int .i64 a1_0, .string a1_1, .string a1_2, .string a1_3, .slice A1_4 l1_4.length c1_4]] ?_; (with_reducible refine (print_printer_verb.calls NXF NXC _ _ _ _ _ _ _ _ _ _ _ _ w0 _ ?side1 ?side2 ?side3 ?side4 ?side5 A3.out).mono ?_); (case side1 => exact yIT); (case side2 => exact (kLIT HB)); (case side3 => exact Kd.C_keep (⟨#[]⟩ : ByteArray) HR1_4.out (kK HK) hf1_4); (case side4 => exact HC1_4.out); (case side5 => exact hf1_4); rintro e w11 ⟨rfl, hi, hb, hk⟩; refine ⟨_, rfl, ?_⟩; replace BK1210 := am (KeepBut.blk hk (kB BK1210) NB1210_0.out (by simp)); replace HK := am (KeepBut.trans (kK HK) hk (.inl rfl)); replace HB := am hb; replace HI0 := am hi; (try clear hi hb hk)) | ((with_reducible refine gC 105 rfl ?_); refine gL (some 11) Try.func105 #[.pointer (some ⟨g, 0, none⟩)] ?_; (with_reducible refine (print_printer_inner.calls NXF NXC _ _ _ _ _ w0 _ ?side1 ?side2 A4.out).mono ?_); (case side1 => exact yIT); (case side2 => exact (kLIT HB)); rintro e w12 ⟨rfl, hi, hb, hk⟩; refine ⟨_, rfl, ?_⟩; replace BK1210 := am (KeepBut.blk hk (kB BK1210) NB1210_0.out (by simp)); replace HK := am (KeepBut.trans (kK HK) hk (.inl rfl)); replace HB := am hb; replace HI0 := am hi; (try clear hi hb hk)) | ((with_reducible refine gC 54 rfl ?_); refine gL (some 16) Try.func54 #[.pointer (some ⟨g, 0, none⟩)] ?_; (with_reducible refine (NXC.out _ _ _ _ _ w0 _ ?side1 ?side2 A6.out).mono ?_); (case side1 => exact yIT); (case side2 => exact (kLIT HB)); rintro e w13 ⟨rfl, hi, hb, hk⟩; refine ⟨_, rfl, ?_⟩; replace BK1210 := am (KeepBut.blk hk (kB BK1210) NB1210_0.out (by simp)); replace HK := am (KeepBut.trans (kK HK) hk (.inl rfl)); replace HB := am hb; replace HI0 := am hi; (try clear hi hb hk)))
   go_ret
   exact ⟨yE, yIT, (kLIT HB), (kK HK)⟩
  ·rw [if_neg c7] at H
   exact absurd H (by simp)
 ·rw [if_neg c5] at H
  exact absurd H (by simp)
end Go.Proofs.Ytdelccahgchadaa.P
end
