/- What the law ParseFirst rests on, part 2. -/
import Derived.Test.YtdelccahgchadaaKParseFirst0
import Derived.Shelf.Strings.Builder1
import Derived.Shelf.Strings.Builder2
import Derived.Shelf.Strings.OnBuilder
import Derived.Shelf.Small.Strs
import Derived.Shelf.Strings.Search1
import Derived.Shelf.Strings.Search2
import Derived.Shelf.Strings.Search3
import Derived.Shelf.LaysM
import Derived.Shelf.Strings.Shaped
import Derived.Shelf.GgClosure.StringsIndexFunc
import Derived.Ground.GgwProg
import Derived.Shelf.GgClosure.StringsIndexFuncTop
import Derived.Shelf.GgClosure.StringsRunes
import Derived.Shelf.Strings.Prefix
import Derived.Shelf.Strings.FuncGrows
import Derived.Shelf.Abstract
import Derived.WalkSpells
import Derived.WalkLawsBesides
import Derived.Laws.RangeAny
import Derived.Lib.IndexAny
import Derived.StillTailTactics
import Derived.BigRegion
import Derived.Deep.RegionWith
set_option linter.unusedVariables false
set_option linter.unusedSimpArgs false
section
namespace Go.Proofs
open Go.Shelf
def Try.lays169_ren : Go.Shelf.Ren := ⟨fun | 169 => 118 | n => n, fun | 70 => 116 | 9 => 9 | 0 => 0 | 72 => 119 | 37 => 117 | 127 => 126 | 3 => 3 | 5 => 5 | n => n, fun | n => n⟩
theorem Try.lays169 : Go.Proofs.Lays.n169 Try.prog Try.lays169_ren := {
  mixed := by kernel_rfl
  f169 := Try.func118.trans (congrArg some (by kernel_rfl))
  t0 := Try.underlying0
  a0 := Try.isAgg0
  z0 := Try.sizeOf0
  v0 := Try.zeroValue0
  t3 := Try.underlying3
  a3 := Try.isAgg3
  z3 := Try.sizeOf3
  v3 := Try.zeroValue3
  t9 := Try.underlying9
  a9 := Try.isAgg9
  z9 := Try.sizeOf9
  v9 := Try.zeroValue9
  t37 := Try.underlying117
  a37 := Try.isAgg117
  z37 := Try.sizeOf117
  v37 := Try.zeroValue117
  t70 := Try.underlying116
  a70 := Try.isAgg116
  z70 := Try.sizeOf116
  v70 := Try.zeroValue116
  t72 := Try.underlying119
  a72 := Try.isAgg119
  z72 := Try.sizeOf119
  v72 := Try.zeroValue119
  t127 := Try.underlying126
  a127 := Try.isAgg126
  z127 := Try.sizeOf126
  v127 := Try.zeroValue126 }
theorem Try.Builder_Extra_169 : Builder.Extra Try.prog Try.lays169_ren := {
  sizeBuilder := by kernel_rfl
  liesBuilder := by kernel_rfl
  t5 := Try.underlying5
  a5 := Try.isAgg5
  z5 := Try.sizeOf5
  v5 := Try.zeroValue5
  infoByte := by kernel_rfl
  cellsByte := by kernel_rfl
  sizeByte := by kernel_rfl
  neB5 := by decide }
open Go.RowKit in
theorem Try.Builder_String (B b : Nat) (l : List UInt8) (w : World) (h : Lib.IsBuilder 119 5 B b (Lib.byteCells l) w) (h0 : l ≠ []) :
    Calls Try.prog 118 #[.pointer (some ⟨b, 0, none⟩)] w fun e w' => e = .returned (.string ⟨l.toArray⟩) ∧ Below B w w' := Any.Builder_String Try.lays169 Try.Builder_Extra_169 B b l w h h0
open Go.RowKit in
theorem Try.Builder_String_empty (B b : Nat) (w : World) (h : Lib.IsBuilder 119 5 B b [] w) (hBw : B ≤ w.heap.size) :
    Calls Try.prog 118 #[.pointer (some ⟨b, 0, none⟩)] w fun e w' => e = .returned (.string ⟨#[]⟩) ∧ Below B w w' := Any.Builder_String_empty Try.lays169 Try.Builder_Extra_169 B b w h hBw
open Go.RowKit in
theorem Try.Builder_String_any (B b : Nat) (l : List UInt8) (w : World) (h : Lib.IsBuilder 119 5 B b (Lib.byteCells l) w) (hBw : B ≤ w.heap.size) :
    Calls Try.prog 118 #[.pointer (some ⟨b, 0, none⟩)] w fun e w' => e = .returned (.string ⟨l.toArray⟩) ∧ Below B w w' := Any.Builder_String_any Try.lays169 Try.Builder_Extra_169 B b l w h hBw
def Try.lays241_ren : Go.Shelf.Ren := ⟨fun | 241 => 126 | 277 => 132 | n => n, fun | 70 => 116 | 3 => 3 | 0 => 0 | 72 => 119 | 37 => 117 | 5 => 5 | n => n, fun | n => n⟩
theorem Try.lays241 : Go.Proofs.Lays.n241 Try.prog Try.lays241_ren := {
  mixed := by kernel_rfl
  f241 := Try.func126.trans (congrArg some (by kernel_rfl))
  f277 := Try.func132.trans (congrArg some (by kernel_rfl))
  t0 := Try.underlying0
  a0 := Try.isAgg0
  z0 := Try.sizeOf0
  v0 := Try.zeroValue0
  t3 := Try.underlying3
  a3 := Try.isAgg3
  z3 := Try.sizeOf3
  v3 := Try.zeroValue3
  t37 := Try.underlying117
  a37 := Try.isAgg117
  z37 := Try.sizeOf117
  v37 := Try.zeroValue117
  t70 := Try.underlying116
  a70 := Try.isAgg116
  z70 := Try.sizeOf116
  v70 := Try.zeroValue116
  t72 := Try.underlying119
  a72 := Try.isAgg119
  z72 := Try.sizeOf119
  v72 := Try.zeroValue119 }
theorem Try.Builder_Extra_241 : Builder.Extra Try.prog Try.lays241_ren := {
  sizeBuilder := by kernel_rfl
  liesBuilder := by kernel_rfl
  t5 := Try.underlying5
  a5 := Try.isAgg5
  z5 := Try.sizeOf5
  v5 := Try.zeroValue5
  infoByte := by kernel_rfl
  cellsByte := by kernel_rfl
  sizeByte := by kernel_rfl
  neB5 := by decide }
open Go.RowKit in
theorem Try.Builder_grow_fresh (B b n : Nat) (w : World) (hB : B ≤ b) (hbk : w.heap[b]? = some (.cells #[.pointer (some ⟨b, 0, none⟩), .slice none 0 0] 119 (0, 0))) (hBw : B ≤ w.heap.size) (hn : n ≤ 281474976710656) :
    Calls Try.prog 126 #[.pointer (some ⟨b, 0, none⟩), .int .i64 n] w fun e w' => e = .returned (.tuple #[]) ∧ (Lib.BuilderAt 119 5 B b (.pointer (some ⟨b, 0, none⟩)) [] w' ∧ Below B w w') := Any.Builder_grow_fresh Try.lays241 Try.Builder_Extra_241 B b n w hB hbk hBw hn
def Try.lays165_ren : Go.Shelf.Ren := ⟨fun | 165 => 116 | 240 => 125 | 241 => 126 | 276 => 131 | 277 => 132 | n => n, fun | 70 => 116 | 3 => 3 | 0 => 0 | 4 => 4 | 9 => 9 | 20 => 20 | 72 => 119 | 37 => 117 | 164 => 129 | 5 => 5 | n => n, fun | n => n⟩
theorem Try.lays165 : Go.Proofs.Lays.n165 Try.prog Try.lays165_ren := {
  mixed := by kernel_rfl
  f165 := Try.func116.trans (congrArg some (by kernel_rfl))
  f240 := Try.func125.trans (congrArg some (by kernel_rfl))
  f241 := Try.func126.trans (congrArg some (by kernel_rfl))
  f276 := Try.func131.trans (congrArg some (by kernel_rfl))
  f277 := Try.func132.trans (congrArg some (by kernel_rfl))
  t0 := Try.underlying0
  a0 := Try.isAgg0
  z0 := Try.sizeOf0
  v0 := Try.zeroValue0
  t3 := Try.underlying3
  a3 := Try.isAgg3
  z3 := Try.sizeOf3
  v3 := Try.zeroValue3
  t4 := Try.underlying4
  a4 := Try.isAgg4
  z4 := Try.sizeOf4
  v4 := Try.zeroValue4
  t9 := Try.underlying9
  a9 := Try.isAgg9
  z9 := Try.sizeOf9
  v9 := Try.zeroValue9
  t20 := Try.underlying20
  a20 := Try.isAgg20
  z20 := Try.sizeOf20
  v20 := Try.zeroValue20
  t37 := Try.underlying117
  a37 := Try.isAgg117
  z37 := Try.sizeOf117
  v37 := Try.zeroValue117
  t70 := Try.underlying116
  a70 := Try.isAgg116
  z70 := Try.sizeOf116
  v70 := Try.zeroValue116
  t72 := Try.underlying119
  a72 := Try.isAgg119
  z72 := Try.sizeOf119
  v72 := Try.zeroValue119
  t164 := Try.underlying129
  a164 := Try.isAgg129
  z164 := Try.sizeOf129
  v164 := Try.zeroValue129 }
theorem Try.Builder_Extra_165 : Builder.Extra Try.prog Try.lays165_ren := {
  sizeBuilder := by kernel_rfl
  liesBuilder := by kernel_rfl
  t5 := Try.underlying5
  a5 := Try.isAgg5
  z5 := Try.sizeOf5
  v5 := Try.zeroValue5
  infoByte := by kernel_rfl
  cellsByte := by kernel_rfl
  sizeByte := by kernel_rfl
  neB5 := by decide }
open Go.RowKit in
theorem Try.Builder_Grow_fresh (B b n : Nat) (w : World) (hB : B ≤ b) (hbk : w.heap[b]? = some (.cells #[.pointer none, .slice none 0 0] 119 (0, 0))) (hBw : B ≤ w.heap.size) (hn : n ≤ 281474976710656) :
    Calls Try.prog 116 #[.pointer (some ⟨b, 0, none⟩), .int .i64 n] w fun e w' => e = .returned (.tuple #[]) ∧ (Lib.BuilderAt 119 5 B b (.pointer (some ⟨b, 0, none⟩)) [] w' ∧ Below B w w') := Any.Builder_Grow_fresh Try.lays165 Try.Builder_Extra_165 B b n w hB hbk hBw hn
def Try.lays156_ren : Go.Shelf.Ren := ⟨fun | 156 => 103 | 165 => 116 | 166 => 117 | 169 => 118 | 240 => 125 | 241 => 126 | 276 => 131 | 277 => 132 | n => n, fun | 31 => 23 | 9 => 9 | 3 => 3 | 4 => 4 | 0 => 0 | 20 => 20 | 72 => 119 | 76 => 123 | 70 => 116 | 37 => 117 | 75 => 122 | 127 => 126 | 164 => 129 | 5 => 5 | 80 => 75 | n => n, fun | n => n⟩
theorem Try.lays156 : Go.Proofs.Lays.n156 Try.prog Try.lays156_ren := {
  mixed := by kernel_rfl
  f156 := Try.func103.trans (congrArg some (by kernel_rfl))
  f165 := Try.func116.trans (congrArg some (by kernel_rfl))
  f166 := Try.func117.trans (congrArg some (by kernel_rfl))
  f169 := Try.func118.trans (congrArg some (by kernel_rfl))
  f240 := Try.func125.trans (congrArg some (by kernel_rfl))
  f241 := Try.func126.trans (congrArg some (by kernel_rfl))
  f276 := Try.func131.trans (congrArg some (by kernel_rfl))
  f277 := Try.func132.trans (congrArg some (by kernel_rfl))
  t0 := Try.underlying0
  a0 := Try.isAgg0
  z0 := Try.sizeOf0
  v0 := Try.zeroValue0
  t3 := Try.underlying3
  a3 := Try.isAgg3
  z3 := Try.sizeOf3
  v3 := Try.zeroValue3
  t4 := Try.underlying4
  a4 := Try.isAgg4
  z4 := Try.sizeOf4
  v4 := Try.zeroValue4
  t9 := Try.underlying9
  a9 := Try.isAgg9
  z9 := Try.sizeOf9
  v9 := Try.zeroValue9
  t20 := Try.underlying20
  a20 := Try.isAgg20
  z20 := Try.sizeOf20
  v20 := Try.zeroValue20
  t31 := Try.underlying23
  a31 := Try.isAgg23
  z31 := Try.sizeOf23
  v31 := Try.zeroValue23
  t37 := Try.underlying117
  a37 := Try.isAgg117
  z37 := Try.sizeOf117
  v37 := Try.zeroValue117
  t70 := Try.underlying116
  a70 := Try.isAgg116
  z70 := Try.sizeOf116
  v70 := Try.zeroValue116
  t72 := Try.underlying119
  a72 := Try.isAgg119
  z72 := Try.sizeOf119
  v72 := Try.zeroValue119
  t75 := Try.underlying122
  a75 := Try.isAgg122
  z75 := Try.sizeOf122
  v75 := Try.zeroValue122
  t76 := Try.underlying123
  a76 := Try.isAgg123
  z76 := Try.sizeOf123
  v76 := Try.zeroValue123
  t127 := Try.underlying126
  a127 := Try.isAgg126
  z127 := Try.sizeOf126
  v127 := Try.zeroValue126
  t164 := Try.underlying129
  a164 := Try.isAgg129
  z164 := Try.sizeOf129
  v164 := Try.zeroValue129 }
theorem Try.Builder_Extra_156 : Builder.Extra Try.prog Try.lays156_ren := {
  sizeBuilder := by kernel_rfl
  liesBuilder := by kernel_rfl
  t5 := Try.underlying5
  a5 := Try.isAgg5
  z5 := Try.sizeOf5
  v5 := Try.zeroValue5
  infoByte := by kernel_rfl
  cellsByte := by kernel_rfl
  sizeByte := by kernel_rfl
  neB5 := by decide }
open Go.RowKit in
theorem Try.strings_Join_none (a : Option Addr) (c : Nat) (sep : ByteArray) (w : World) :
    Calls Try.prog 103 #[.slice a 0 c, .string sep] w fun e w' => e = .returned (.string ⟨#[]⟩) ∧ w' = w := Any.strings_Join_none Try.lays156 Try.Builder_Extra_156 a c sep w
open Go.RowKit in
theorem Try.strings_Join (bk o c : Nat) (xs : List ByteArray) (sep : ByteArray) (w : World) (hcells : ∀ (j : Nat) x, xs[j]? = some x → w.cell? ⟨bk, o + j, none⟩ = some (.string x)) (hbk : bk < w.heap.size) (hN : xs.length ≤ 140737488355328) (hcap : xs.length ≤ c) (hlen : (Lib.join (xs.map (·.data.toList)) sep.data.toList).length ≤ 140737488355328) :
    Calls Try.prog 103 #[.slice (some ⟨bk, o, none⟩) xs.length c, .string sep] w fun e w' => e = .returned (.string ⟨(Lib.join (xs.map (·.data.toList)) sep.data.toList).toArray⟩) ∧ Below w.heap.size w w' := Any.strings_Join Try.lays156 Try.Builder_Extra_156 bk o c xs sep w hcells hbk hN hcap hlen
def Try.lays137_ren : Go.Shelf.Ren := ⟨fun | 137 => 90 | 217 => 109 | 266 => 122 | n => n, fun | 9 => 9 | 5 => 5 | 3 => 3 | n => n, fun | n => n⟩
theorem Try.lays137 : Go.Proofs.Lays.n137 Try.prog Try.lays137_ren := {
  mixed := by kernel_rfl
  f137 := Try.func90.trans (congrArg some (by kernel_rfl))
  f217 := Try.func109.trans (congrArg some (by kernel_rfl))
  f266 := Try.func122.trans (congrArg some (by kernel_rfl))
  t3 := Try.underlying3
  a3 := Try.isAgg3
  z3 := Try.sizeOf3
  v3 := Try.zeroValue3
  t5 := Try.underlying5
  a5 := Try.isAgg5
  z5 := Try.sizeOf5
  v5 := Try.zeroValue5
  t9 := Try.underlying9
  a9 := Try.isAgg9
  z9 := Try.sizeOf9
  v9 := Try.zeroValue9 }
open Go.RowKit in
theorem Try.strings_IndexByte (s : ByteArray) (c : Int) (w : World) :
    Calls Try.prog 90 #[.string s, .int .u8 c] w fun e w' => e = .returned (.int .i64 (Lib.indexByte s.data.toList c.toNat.toUInt8)) ∧ w' = w := Any.strings_IndexByte Try.lays137 s c w
def Try.lays217_ren : Go.Shelf.Ren := ⟨fun | 217 => 109 | 266 => 122 | n => n, fun | 9 => 9 | 5 => 5 | 3 => 3 | n => n, fun | n => n⟩
theorem Try.lays217 : Go.Proofs.Lays.n217 Try.prog Try.lays217_ren := {
  mixed := by kernel_rfl
  f217 := Try.func109.trans (congrArg some (by kernel_rfl))
  f266 := Try.func122.trans (congrArg some (by kernel_rfl))
  t3 := Try.underlying3
  a3 := Try.isAgg3
  z3 := Try.sizeOf3
  v3 := Try.zeroValue3
  t5 := Try.underlying5
  a5 := Try.isAgg5
  z5 := Try.sizeOf5
  v5 := Try.zeroValue5
  t9 := Try.underlying9
  a9 := Try.isAgg9
  z9 := Try.sizeOf9
  v9 := Try.zeroValue9 }
open Go.RowKit Go.Lib in
theorem Try.stringslite_IndexByte (s : ByteArray) (c : Int) (w : World) :
    Calls Try.prog 109 #[.string s, .int .u8 c] w fun e w' => e = .returned (.int .i64 (Lib.indexByte s.data.toList c.toNat.toUInt8)) ∧ w' = w := Any.stringslite_IndexByte Try.lays217 s c w
def Try.lays224_ren : Go.Shelf.Ren := ⟨fun | 224 => 128 | n => n, fun | 3 => 3 | n => n, fun | n => n⟩
theorem Try.lays224 : Go.Proofs.Lays.n224 Try.prog Try.lays224_ren := {
  mixed := by kernel_rfl
  f224 := Try.func128.trans (congrArg some (by kernel_rfl))
  t3 := Try.underlying3
  a3 := Try.isAgg3
  z3 := Try.sizeOf3
  v3 := Try.zeroValue3 }
open Go.RowKit Go.Lib in
theorem Try.bytealg_Cutover (n : Int) (h0 : 0 ≤ n) (h1 : n < 4611686018427387904) (w : World) :
    Calls Try.prog 128 #[.int .i64 n] w fun e w' => e = .returned (.int .i64 ((n + 16) / 8)) ∧ w' = w := Any.bytealg_Cutover Try.lays224 n h0 h1 w
def Try.lays314_ren : Go.Shelf.Ren := ⟨fun | 314 => 133 | n => n, fun | 9 => 9 | 51 => 132 | 3 => 3 | 4 => 4 | 5 => 5 | 46 => 128 | n => n, fun | n => n⟩
theorem Try.lays314 : Go.Proofs.Lays.n314 Try.prog Try.lays314_ren := {
  mixed := by kernel_rfl
  f314 := Try.func133.trans (congrArg some (by kernel_rfl))
  t3 := Try.underlying3
  a3 := Try.isAgg3
  z3 := Try.sizeOf3
  v3 := Try.zeroValue3
  t4 := Try.underlying4
  a4 := Try.isAgg4
  z4 := Try.sizeOf4
  v4 := Try.zeroValue4
  t5 := Try.underlying5
  a5 := Try.isAgg5
  z5 := Try.sizeOf5
  v5 := Try.zeroValue5
  t9 := Try.underlying9
  a9 := Try.isAgg9
  z9 := Try.sizeOf9
  v9 := Try.zeroValue9
  t46 := Try.underlying128
  a46 := Try.isAgg128
  z46 := Try.sizeOf128
  v46 := Try.zeroValue128
  t51 := Try.underlying132
  a51 := Try.isAgg132
  z51 := Try.sizeOf132
  v51 := Try.zeroValue132 }
open Go.RowKit Go.Lib in
theorem Try.bytealg_hashStr (sep : ByteArray) (hs : sep.size < 4294967281) (w : World) :
    Calls Try.prog 133 #[.string sep] w fun e w' => e = .returned (.tuple #[.int .u32 (RK.H sep.data.toList % 4294967296), .int .u32 (16777619 ^ sep.size % 4294967296)]) ∧ w' = w := Any.bytealg_hashStr Try.lays314 sep hs w
def Try.lays267_ren : Go.Shelf.Ren := ⟨fun | 267 => 129 | 314 => 133 | n => n, fun | 9 => 9 | 3 => 3 | 146 => 133 | 51 => 132 | 4 => 4 | 5 => 5 | 46 => 128 | n => n, fun | n => n⟩
theorem Try.lays267 : Go.Proofs.Lays.n267 Try.prog Try.lays267_ren := {
  mixed := by kernel_rfl
  f267 := Try.func129.trans (congrArg some (by kernel_rfl))
  f314 := Try.func133.trans (congrArg some (by kernel_rfl))
  t3 := Try.underlying3
  a3 := Try.isAgg3
  z3 := Try.sizeOf3
  v3 := Try.zeroValue3
  t4 := Try.underlying4
  a4 := Try.isAgg4
  z4 := Try.sizeOf4
  v4 := Try.zeroValue4
  t5 := Try.underlying5
  a5 := Try.isAgg5
  z5 := Try.sizeOf5
  v5 := Try.zeroValue5
  t9 := Try.underlying9
  a9 := Try.isAgg9
  z9 := Try.sizeOf9
  v9 := Try.zeroValue9
  t46 := Try.underlying128
  a46 := Try.isAgg128
  z46 := Try.sizeOf128
  v46 := Try.zeroValue128
  t51 := Try.underlying132
  a51 := Try.isAgg132
  z51 := Try.sizeOf132
  v51 := Try.zeroValue132
  t146 := Try.underlying133
  a146 := Try.isAgg133
  z146 := Try.sizeOf133
  v146 := Try.zeroValue133 }
open Go.RowKit Go.Lib in
theorem Try.bytealg_IndexRabinKarp (s sep : ByteArray) (h1 : 1 ≤ sep.size) (h2 : sep.size ≤ s.size) (hs : s.size < 4294967281) (w : World) :
    Calls Try.prog 129 #[.string s, .string sep] w fun e w' => e = .returned (.int .i64 (Lib.index s.data.toList sep.data.toList)) ∧ w' = w := Any.bytealg_IndexRabinKarp Try.lays267 s sep h1 h2 hs w
def Try.lays219_ren : Go.Shelf.Ren := ⟨fun | 219 => 121 | 217 => 109 | 225 => 127 | 224 => 128 | 267 => 129 | 266 => 122 | 314 => 133 | n => n, fun | 9 => 9 | 3 => 3 | 4 => 4 | 5 => 5 | 46 => 128 | 146 => 133 | 51 => 132 | n => n, fun | 1 => 0 | n => n⟩
theorem Try.lays219 : Go.Proofs.Lays.n219 Try.prog Try.lays219_ren := {
  mixed := by kernel_rfl
  f217 := Try.func109.trans (congrArg some (by kernel_rfl))
  f219 := Try.func121.trans (congrArg some (by kernel_rfl))
  f224 := Try.func128.trans (congrArg some (by kernel_rfl))
  f225 := Try.func127.trans (congrArg some (by kernel_rfl))
  f266 := Try.func122.trans (congrArg some (by kernel_rfl))
  f267 := Try.func129.trans (congrArg some (by kernel_rfl))
  f314 := Try.func133.trans (congrArg some (by kernel_rfl))
  t3 := Try.underlying3
  a3 := Try.isAgg3
  z3 := Try.sizeOf3
  v3 := Try.zeroValue3
  t4 := Try.underlying4
  a4 := Try.isAgg4
  z4 := Try.sizeOf4
  v4 := Try.zeroValue4
  t5 := Try.underlying5
  a5 := Try.isAgg5
  z5 := Try.sizeOf5
  v5 := Try.zeroValue5
  t9 := Try.underlying9
  a9 := Try.isAgg9
  z9 := Try.sizeOf9
  v9 := Try.zeroValue9
  t46 := Try.underlying128
  a46 := Try.isAgg128
  z46 := Try.sizeOf128
  v46 := Try.zeroValue128
  t51 := Try.underlying132
  a51 := Try.isAgg132
  z51 := Try.sizeOf132
  v51 := Try.zeroValue132
  t146 := Try.underlying133
  a146 := Try.isAgg133
  z146 := Try.sizeOf133
  v146 := Try.zeroValue133
  g1 := by kernel_rfl }
open Go.RowKit Go.Lib in
theorem Try.stringslite_Index_one (s : ByteArray) (c : UInt8) (w : World) :
    Calls Try.prog 121 #[.string s, .string ⟨#[c]⟩] w fun e w' => e = .returned (.int .i64 (Lib.indexByte s.data.toList c)) ∧ w' = w := Any.stringslite_Index_one Try.lays219 s c w
open Go.RowKit Go.Lib in
theorem Try.stringslite_Index (s sub : ByteArray) (m : Int) (w : World) (hs : s.size < 4294967281) (hm : w.cell? ⟨0, 0, none⟩ = some (.int .i64 m)) :
    Calls Try.prog 121 #[.string s, .string sub] w fun e w' => e = .returned (.int .i64 (Lib.index s.data.toList sub.data.toList)) ∧ w' = w := Any.stringslite_Index Try.lays219 s sub m w hs hm
def Try.lays143_ren : Go.Shelf.Ren := ⟨fun | 143 => 108 | 219 => 121 | 217 => 109 | 225 => 127 | 224 => 128 | 267 => 129 | 266 => 122 | 314 => 133 | n => n, fun | 9 => 9 | 3 => 3 | 4 => 4 | 5 => 5 | 46 => 128 | 146 => 133 | 51 => 132 | n => n, fun | 1 => 0 | n => n⟩
theorem Try.lays143 : Go.Proofs.Lays.n143 Try.prog Try.lays143_ren := {
  mixed := by kernel_rfl
  f143 := Try.func108.trans (congrArg some (by kernel_rfl))
  f217 := Try.func109.trans (congrArg some (by kernel_rfl))
  f219 := Try.func121.trans (congrArg some (by kernel_rfl))
  f224 := Try.func128.trans (congrArg some (by kernel_rfl))
  f225 := Try.func127.trans (congrArg some (by kernel_rfl))
  f266 := Try.func122.trans (congrArg some (by kernel_rfl))
  f267 := Try.func129.trans (congrArg some (by kernel_rfl))
  f314 := Try.func133.trans (congrArg some (by kernel_rfl))
  t3 := Try.underlying3
  a3 := Try.isAgg3
  z3 := Try.sizeOf3
  v3 := Try.zeroValue3
  t4 := Try.underlying4
  a4 := Try.isAgg4
  z4 := Try.sizeOf4
  v4 := Try.zeroValue4
  t5 := Try.underlying5
  a5 := Try.isAgg5
  z5 := Try.sizeOf5
  v5 := Try.zeroValue5
  t9 := Try.underlying9
  a9 := Try.isAgg9
  z9 := Try.sizeOf9
  v9 := Try.zeroValue9
  t46 := Try.underlying128
  a46 := Try.isAgg128
  z46 := Try.sizeOf128
  v46 := Try.zeroValue128
  t51 := Try.underlying132
  a51 := Try.isAgg132
  z51 := Try.sizeOf132
  v51 := Try.zeroValue132
  t146 := Try.underlying133
  a146 := Try.isAgg133
  z146 := Try.sizeOf133
  v146 := Try.zeroValue133
  g1 := by kernel_rfl }
open Go.RowKit Go.Lib in
theorem Try.strings_Index_one (s : ByteArray) (c : UInt8) (w : World) :
    Calls Try.prog 108 #[.string s, .string ⟨#[c]⟩] w fun e w' => e = .returned (.int .i64 (Lib.indexByte s.data.toList c)) ∧ w' = w := Any.strings_Index_one Try.lays143 s c w
open Go.RowKit Go.Lib in
theorem Try.strings_Index (s sub : ByteArray) (m : Int) (w : World) (hs : s.size < 4294967281) (hm : w.cell? ⟨0, 0, none⟩ = some (.int .i64 m)) :
    Calls Try.prog 108 #[.string s, .string sub] w fun e w' => e = .returned (.int .i64 (Lib.index s.data.toList sub.data.toList)) ∧ w' = w := Any.strings_Index Try.lays143 s sub m w hs hm
def Try.lays144_ren : Go.Shelf.Ren := ⟨fun | 144 => 83 | 143 => 108 | 219 => 121 | 217 => 109 | 225 => 127 | 224 => 128 | 267 => 129 | 266 => 122 | 314 => 133 | n => n, fun | 9 => 9 | 4 => 4 | 3 => 3 | 5 => 5 | 46 => 128 | 146 => 133 | 51 => 132 | n => n, fun | 1 => 0 | n => n⟩
theorem Try.lays144 : Go.Proofs.Lays.n144 Try.prog Try.lays144_ren := {
  mixed := by kernel_rfl
  f143 := Try.func108.trans (congrArg some (by kernel_rfl))
  f144 := Try.func83.trans (congrArg some (by kernel_rfl))
  f217 := Try.func109.trans (congrArg some (by kernel_rfl))
  f219 := Try.func121.trans (congrArg some (by kernel_rfl))
  f224 := Try.func128.trans (congrArg some (by kernel_rfl))
  f225 := Try.func127.trans (congrArg some (by kernel_rfl))
  f266 := Try.func122.trans (congrArg some (by kernel_rfl))
  f267 := Try.func129.trans (congrArg some (by kernel_rfl))
  f314 := Try.func133.trans (congrArg some (by kernel_rfl))
  t3 := Try.underlying3
  a3 := Try.isAgg3
  z3 := Try.sizeOf3
  v3 := Try.zeroValue3
  t4 := Try.underlying4
  a4 := Try.isAgg4
  z4 := Try.sizeOf4
  v4 := Try.zeroValue4
  t5 := Try.underlying5
  a5 := Try.isAgg5
  z5 := Try.sizeOf5
  v5 := Try.zeroValue5
  t9 := Try.underlying9
  a9 := Try.isAgg9
  z9 := Try.sizeOf9
  v9 := Try.zeroValue9
  t46 := Try.underlying128
  a46 := Try.isAgg128
  z46 := Try.sizeOf128
  v46 := Try.zeroValue128
  t51 := Try.underlying132
  a51 := Try.isAgg132
  z51 := Try.sizeOf132
  v51 := Try.zeroValue132
  t146 := Try.underlying133
  a146 := Try.isAgg133
  z146 := Try.sizeOf133
  v146 := Try.zeroValue133
  g1 := by kernel_rfl }
open Go.RowKit Go.Lib in
theorem Try.strings_Contains_one (s : ByteArray) (c : UInt8) (w : World) :
    Calls Try.prog 83 #[.string s, .string ⟨#[c]⟩] w fun e w' => e = .returned (.bool (decide (0 ≤ Lib.indexByte s.data.toList c))) ∧ w' = w := Any.strings_Contains_one Try.lays144 s c w
open Go.RowKit Go.Lib in
theorem Try.strings_Contains (s sub : ByteArray) (m : Int) (w : World) (hs : s.size < 4294967281) (hm : w.cell? ⟨0, 0, none⟩ = some (.int .i64 m)) :
    Calls Try.prog 83 #[.string s, .string sub] w fun e w' => e = .returned (.bool (Lib.contains s.data.toList sub.data.toList)) ∧ w' = w := Any.strings_Contains Try.lays144 s sub m w hs hm
def Try.laysM219_ren : Go.Shelf.Ren := ⟨fun | 219 => 121 | 217 => 109 | 225 => 127 | 224 => 128 | 267 => 129 | 266 => 122 | 314 => 133 | n => n, fun | 9 => 9 | 3 => 3 | 4 => 4 | 5 => 5 | 46 => 128 | 146 => 133 | 51 => 132 | n => n, fun | 1 => 0 | n => n⟩
theorem Try.laysM219 : Go.Proofs.LaysM.n219 Try.prog Try.laysM219_ren := {
  mixed := by kernel_rfl
  f217 := Try.func109.trans (congrArg some (by kernel_rfl))
  f219 := Try.func121.trans (congrArg some (by kernel_rfl))
  f224 := Try.func128.trans (congrArg some (by kernel_rfl))
  f225 := Try.func127.trans (congrArg some (by kernel_rfl))
  f266 := Try.func122.trans (congrArg some (by kernel_rfl))
  f267 := Try.func129.trans (congrArg some (by kernel_rfl))
  f314 := Try.func133.trans (congrArg some (by kernel_rfl))
  t3 := Try.underlying3
  a3 := Try.isAgg3
  z3 := Try.sizeOf3
  v3 := Try.zeroValue3
  t4 := Try.underlying4
  a4 := Try.isAgg4
  z4 := Try.sizeOf4
  v4 := Try.zeroValue4
  t5 := Try.underlying5
  a5 := Try.isAgg5
  z5 := Try.sizeOf5
  v5 := Try.zeroValue5
  t9 := Try.underlying9
  a9 := Try.isAgg9
  z9 := Try.sizeOf9
  v9 := Try.zeroValue9
  t46 := Try.underlying128
  a46 := Try.isAgg128
  z46 := Try.sizeOf128
  v46 := Try.zeroValue128
  t51 := Try.underlying132
  a51 := Try.isAgg132
  z51 := Try.sizeOf132
  v51 := Try.zeroValue132
  t146 := Try.underlying133
  a146 := Try.isAgg133
  z146 := Try.sizeOf133
  v146 := Try.zeroValue133
  g1 := by kernel_rfl
  i3 := by kernel_rfl
  i4 := by kernel_rfl
  i5 := by kernel_rfl
  i9 := by kernel_rfl
  i46 := by kernel_rfl
  i51 := by kernel_rfl
  i146 := by kernel_rfl
  m1 := by kernel_rfl
  s1_3 := fun w h => Go.Proofs.cell_of_shapedOpen_int (zero := #[.int .i64 0]) (t := 3) h (of_decide_eq_true (by kernel_rfl)) (by kernel_rfl) rfl (by kernel_rfl) (by kernel_rfl) Try.underlying3 }
open Go.RowKit Go.Lib in
theorem Try.stringslite_Index_shaped (s sub : ByteArray) (w : World) (h : w.ShapedOpen Try.prog) (hs : s.size < 4294967281) :
    Calls Try.prog 121 #[.string s, .string sub] w fun e w' => e = .returned (.int .i64 (Lib.index s.data.toList sub.data.toList)) ∧ w' = w := Any.stringslite_Index_shaped Try.laysM219 s sub w h hs
def Try.laysM143_ren : Go.Shelf.Ren := ⟨fun | 143 => 108 | 219 => 121 | 217 => 109 | 225 => 127 | 224 => 128 | 267 => 129 | 266 => 122 | 314 => 133 | n => n, fun | 9 => 9 | 3 => 3 | 4 => 4 | 5 => 5 | 46 => 128 | 146 => 133 | 51 => 132 | n => n, fun | 1 => 0 | n => n⟩
theorem Try.laysM143 : Go.Proofs.LaysM.n143 Try.prog Try.laysM143_ren := {
  mixed := by kernel_rfl
  f143 := Try.func108.trans (congrArg some (by kernel_rfl))
  f217 := Try.func109.trans (congrArg some (by kernel_rfl))
  f219 := Try.func121.trans (congrArg some (by kernel_rfl))
  f224 := Try.func128.trans (congrArg some (by kernel_rfl))
  f225 := Try.func127.trans (congrArg some (by kernel_rfl))
  f266 := Try.func122.trans (congrArg some (by kernel_rfl))
  f267 := Try.func129.trans (congrArg some (by kernel_rfl))
  f314 := Try.func133.trans (congrArg some (by kernel_rfl))
  t3 := Try.underlying3
  a3 := Try.isAgg3
  z3 := Try.sizeOf3
  v3 := Try.zeroValue3
  t4 := Try.underlying4
  a4 := Try.isAgg4
  z4 := Try.sizeOf4
  v4 := Try.zeroValue4
  t5 := Try.underlying5
  a5 := Try.isAgg5
  z5 := Try.sizeOf5
  v5 := Try.zeroValue5
  t9 := Try.underlying9
  a9 := Try.isAgg9
  z9 := Try.sizeOf9
  v9 := Try.zeroValue9
  t46 := Try.underlying128
  a46 := Try.isAgg128
  z46 := Try.sizeOf128
  v46 := Try.zeroValue128
  t51 := Try.underlying132
  a51 := Try.isAgg132
  z51 := Try.sizeOf132
  v51 := Try.zeroValue132
  t146 := Try.underlying133
  a146 := Try.isAgg133
  z146 := Try.sizeOf133
  v146 := Try.zeroValue133
  g1 := by kernel_rfl
  i3 := by kernel_rfl
  i4 := by kernel_rfl
  i5 := by kernel_rfl
  i9 := by kernel_rfl
  i46 := by kernel_rfl
  i51 := by kernel_rfl
  i146 := by kernel_rfl
  m1 := by kernel_rfl
  s1_3 := fun w h => Go.Proofs.cell_of_shapedOpen_int (zero := #[.int .i64 0]) (t := 3) h (of_decide_eq_true (by kernel_rfl)) (by kernel_rfl) rfl (by kernel_rfl) (by kernel_rfl) Try.underlying3 }
open Go.RowKit Go.Lib in
theorem Try.strings_Index_shaped (s sub : ByteArray) (w : World) (h : w.ShapedOpen Try.prog) (hs : s.size < 4294967281) :
    Calls Try.prog 108 #[.string s, .string sub] w fun e w' => e = .returned (.int .i64 (Lib.index s.data.toList sub.data.toList)) ∧ w' = w := Any.strings_Index_shaped Try.laysM143 s sub w h hs
def Try.laysM144_ren : Go.Shelf.Ren := ⟨fun | 144 => 83 | 143 => 108 | 219 => 121 | 217 => 109 | 225 => 127 | 224 => 128 | 267 => 129 | 266 => 122 | 314 => 133 | n => n, fun | 9 => 9 | 4 => 4 | 3 => 3 | 5 => 5 | 46 => 128 | 146 => 133 | 51 => 132 | n => n, fun | 1 => 0 | n => n⟩
theorem Try.laysM144 : Go.Proofs.LaysM.n144 Try.prog Try.laysM144_ren := {
  mixed := by kernel_rfl
  f143 := Try.func108.trans (congrArg some (by kernel_rfl))
  f144 := Try.func83.trans (congrArg some (by kernel_rfl))
  f217 := Try.func109.trans (congrArg some (by kernel_rfl))
  f219 := Try.func121.trans (congrArg some (by kernel_rfl))
  f224 := Try.func128.trans (congrArg some (by kernel_rfl))
  f225 := Try.func127.trans (congrArg some (by kernel_rfl))
  f266 := Try.func122.trans (congrArg some (by kernel_rfl))
  f267 := Try.func129.trans (congrArg some (by kernel_rfl))
  f314 := Try.func133.trans (congrArg some (by kernel_rfl))
  t3 := Try.underlying3
  a3 := Try.isAgg3
  z3 := Try.sizeOf3
  v3 := Try.zeroValue3
  t4 := Try.underlying4
  a4 := Try.isAgg4
  z4 := Try.sizeOf4
  v4 := Try.zeroValue4
  t5 := Try.underlying5
  a5 := Try.isAgg5
  z5 := Try.sizeOf5
  v5 := Try.zeroValue5
  t9 := Try.underlying9
  a9 := Try.isAgg9
  z9 := Try.sizeOf9
  v9 := Try.zeroValue9
  t46 := Try.underlying128
  a46 := Try.isAgg128
  z46 := Try.sizeOf128
  v46 := Try.zeroValue128
  t51 := Try.underlying132
  a51 := Try.isAgg132
  z51 := Try.sizeOf132
  v51 := Try.zeroValue132
  t146 := Try.underlying133
  a146 := Try.isAgg133
  z146 := Try.sizeOf133
  v146 := Try.zeroValue133
  g1 := by kernel_rfl
  i3 := by kernel_rfl
  i4 := by kernel_rfl
  i5 := by kernel_rfl
  i9 := by kernel_rfl
  i46 := by kernel_rfl
  i51 := by kernel_rfl
  i146 := by kernel_rfl
  m1 := by kernel_rfl
  s1_3 := fun w h => Go.Proofs.cell_of_shapedOpen_int (zero := #[.int .i64 0]) (t := 3) h (of_decide_eq_true (by kernel_rfl)) (by kernel_rfl) rfl (by kernel_rfl) (by kernel_rfl) Try.underlying3 }
open Go.RowKit Go.Lib in
theorem Try.strings_Contains_shaped (s sub : ByteArray) (w : World) (h : w.ShapedOpen Try.prog) (hs : s.size < 4294967281) :
    Calls Try.prog 83 #[.string s, .string sub] w fun e w' => e = .returned (.bool (Lib.contains s.data.toList sub.data.toList)) ∧ w' = w := Any.strings_Contains_shaped Try.laysM144 s sub w h hs
def Try.lays315_ren : Go.Shelf.Ren := ⟨fun | 315 => 120 | n => n, fun | 9 => 9 | 40 => 96 | 4 => 4 | 3 => 3 | 0 => 0 | 21 => 21 | n => n, fun | n => n⟩
theorem Try.lays315 : Go.Proofs.Lays.n315 Try.prog Try.lays315_ren := {
  mixed := by kernel_rfl
  f315 := Try.func120.trans (congrArg some (by kernel_rfl))
  t0 := Try.underlying0
  a0 := Try.isAgg0
  z0 := Try.sizeOf0
  v0 := Try.zeroValue0
  t3 := Try.underlying3
  a3 := Try.isAgg3
  z3 := Try.sizeOf3
  v3 := Try.zeroValue3
  t4 := Try.underlying4
  a4 := Try.isAgg4
  z4 := Try.sizeOf4
  v4 := Try.zeroValue4
  t9 := Try.underlying9
  a9 := Try.isAgg9
  z9 := Try.sizeOf9
  v9 := Try.zeroValue9
  t21 := Try.underlying21
  a21 := Try.isAgg21
  z21 := Try.sizeOf21
  v21 := Try.zeroValue21
  t40 := Try.underlying96
  a40 := Try.isAgg96
  z40 := Try.sizeOf96
  v40 := Try.zeroValue96 }
open Go.RowKit Go.Lib in
theorem Try.strings_indexFunc (g : Nat) (lb : Array Value) (eg : ∀ args w, (callFunc g args).run Try.prog w = .ok (.enter g args) w) (p : Nat → Bool) (truth : Bool) (s : ByteArray) (w : World) (hp : PredAt Try.prog g lb encR p w) :
    Calls Try.prog 120 #[.string s, .func (.func g) #[] lb, .bool truth] w fun e w' => e = .returned (.int .i64 (Lib.idxFunc p truth s)) ∧ Below w.heap.size w w' := Any.strings_indexFunc Try.lays315 g lb eg p truth s w hp
def Try.laysGw15_ren : Go.Shelf.Ren := ⟨fun | 15 => 107 | 20 => 120 | n => n, fun | 9 => 9 | 23 => 96 | 3 => 3 | 4 => 4 | 0 => 0 | 21 => 21 | n => n, fun | n => n⟩
theorem Try.laysGw15 : Go.Proofs.LaysGw.n15 Try.prog Try.laysGw15_ren := {
  mixed := by kernel_rfl
  f15 := Try.func107.trans (congrArg some (by kernel_rfl))
  f20 := Try.func120.trans (congrArg some (by kernel_rfl))
  t0 := Try.underlying0
  a0 := Try.isAgg0
  z0 := Try.sizeOf0
  v0 := Try.zeroValue0
  i0 := by kernel_rfl
  t3 := Try.underlying3
  a3 := Try.isAgg3
  z3 := Try.sizeOf3
  v3 := Try.zeroValue3
  i3 := by kernel_rfl
  t4 := Try.underlying4
  a4 := Try.isAgg4
  z4 := Try.sizeOf4
  v4 := Try.zeroValue4
  i4 := by kernel_rfl
  t9 := Try.underlying9
  a9 := Try.isAgg9
  z9 := Try.sizeOf9
  v9 := Try.zeroValue9
  i9 := by kernel_rfl
  t21 := Try.underlying21
  a21 := Try.isAgg21
  z21 := Try.sizeOf21
  v21 := Try.zeroValue21
  i21 := by kernel_rfl
  t23 := Try.underlying96
  a23 := Try.isAgg96
  z23 := Try.sizeOf96
  v23 := Try.zeroValue96
  i23 := by kernel_rfl }
open Go.RowKit Go.Lib in
theorem Try.strings_IndexFunc (g : Nat) (lb : Array Value) (eg : ∀ args w, (callFunc g args).run Try.prog w = .ok (.enter g args) w) (p : Nat → Bool) (s : ByteArray) (w : World) (hp : PredAt Try.prog g lb encR p w) :
    Calls Try.prog 107 #[.string s, .func (.func g) #[] lb] w fun e w' => e = .returned (.int .i64 (Lib.idxFunc p true s)) ∧ Below w.heap.size w w' := Any.strings_IndexFunc Try.laysGw15 g lb eg p s w hp
def Try.laysGw17_ren : Go.Shelf.Ren := ⟨fun | 17 => 81 | 15 => 107 | 20 => 120 | n => n, fun | 9 => 9 | 23 => 96 | 4 => 4 | 3 => 3 | 0 => 0 | 21 => 21 | n => n, fun | n => n⟩
theorem Try.laysGw17 : Go.Proofs.LaysGw.n17 Try.prog Try.laysGw17_ren := {
  mixed := by kernel_rfl
  f15 := Try.func107.trans (congrArg some (by kernel_rfl))
  f17 := Try.func81.trans (congrArg some (by kernel_rfl))
  f20 := Try.func120.trans (congrArg some (by kernel_rfl))
  t0 := Try.underlying0
  a0 := Try.isAgg0
  z0 := Try.sizeOf0
  v0 := Try.zeroValue0
  i0 := by kernel_rfl
  t3 := Try.underlying3
  a3 := Try.isAgg3
  z3 := Try.sizeOf3
  v3 := Try.zeroValue3
  i3 := by kernel_rfl
  t4 := Try.underlying4
  a4 := Try.isAgg4
  z4 := Try.sizeOf4
  v4 := Try.zeroValue4
  i4 := by kernel_rfl
  t9 := Try.underlying9
  a9 := Try.isAgg9
  z9 := Try.sizeOf9
  v9 := Try.zeroValue9
  i9 := by kernel_rfl
  t21 := Try.underlying21
  a21 := Try.isAgg21
  z21 := Try.sizeOf21
  v21 := Try.zeroValue21
  i21 := by kernel_rfl
  t23 := Try.underlying96
  a23 := Try.isAgg96
  z23 := Try.sizeOf96
  v23 := Try.zeroValue96
  i23 := by kernel_rfl }
open Go.RowKit Go.Lib in
theorem Try.strings_ContainsFunc (g : Nat) (lb : Array Value) (eg : ∀ args w, (callFunc g args).run Try.prog w = .ok (.enter g args) w) (p : Nat → Bool) (s : ByteArray) (w : World) (hp : PredAt Try.prog g lb encR p w) :
    Calls Try.prog 81 #[.string s, .func (.func g) #[] lb] w fun e w' => e = .returned (.bool (decide (0 ≤ Lib.idxFunc p true s))) ∧ Below w.heap.size w w' := Any.strings_ContainsFunc Try.laysGw17 g lb eg p s w hp
open Go.RowKit Go.Lib in
theorem Try.strings_indexFunc_runes (g : Nat) (lb : Array Value) (eg : ∀ args w, (callFunc g args).run Try.prog w = .ok (.enter g args) w) (p : Nat → Bool) (truth : Bool) (s : ByteArray) (w : World) (hp : PredAtRunes Try.prog g lb p w) :
    Calls Try.prog 120 #[.string s, .func (.func g) #[] lb, .bool truth] w fun e w' => e = .returned (.int .i64 (Lib.idxFunc p truth s)) ∧ Below w.heap.size w w' := Any.strings_indexFunc_runes Try.lays315 g lb eg p truth s w hp
open Go.RowKit Go.Lib in
theorem Try.strings_IndexFunc_runes (g : Nat) (lb : Array Value) (eg : ∀ args w, (callFunc g args).run Try.prog w = .ok (.enter g args) w) (p : Nat → Bool) (s : ByteArray) (w : World) (hp : PredAtRunes Try.prog g lb p w) :
    Calls Try.prog 107 #[.string s, .func (.func g) #[] lb] w fun e w' => e = .returned (.int .i64 (Lib.idxFunc p true s)) ∧ Below w.heap.size w w' := Any.strings_IndexFunc_runes Try.laysGw15 g lb eg p s w hp
open Go.RowKit Go.Lib in
theorem Try.strings_ContainsFunc_runes (g : Nat) (lb : Array Value) (eg : ∀ args w, (callFunc g args).run Try.prog w = .ok (.enter g args) w) (p : Nat → Bool) (s : ByteArray) (w : World) (hp : PredAtRunes Try.prog g lb p w) :
    Calls Try.prog 81 #[.string s, .func (.func g) #[] lb] w fun e w' => e = .returned (.bool (decide (0 ≤ Lib.idxFunc p true s))) ∧ Below w.heap.size w w' := Any.strings_ContainsFunc_runes Try.laysGw17 g lb eg p s w hp
def Try.lays206_ren : Go.Shelf.Ren := ⟨fun | 206 => 119 | n => n, fun | 9 => 9 | 4 => 4 | 3 => 3 | n => n, fun | n => n⟩
theorem Try.lays206 : Go.Proofs.Lays.n206 Try.prog Try.lays206_ren := {
  mixed := by kernel_rfl
  f206 := Try.func119.trans (congrArg some (by kernel_rfl))
  t3 := Try.underlying3
  a3 := Try.isAgg3
  z3 := Try.sizeOf3
  v3 := Try.zeroValue3
  t4 := Try.underlying4
  a4 := Try.isAgg4
  z4 := Try.sizeOf4
  v4 := Try.zeroValue4
  t9 := Try.underlying9
  a9 := Try.isAgg9
  z9 := Try.sizeOf9
  v9 := Try.zeroValue9 }
open Go.RowKit Go.Lib in
theorem Try.stringslite_HasPrefix (s p : ByteArray) (w : World) :
    Calls Try.prog 119 #[.string s, .string p] w fun e w' => e = .returned (.bool (Lib.hasPrefix s.data.toList p.data.toList)) ∧ w' = w := Any.stringslite_HasPrefix Try.lays206 s p w
def Try.lays208_ren : Go.Shelf.Ren := ⟨fun | 208 => 106 | 206 => 119 | n => n, fun | 9 => 9 | 4 => 4 | 3 => 3 | n => n, fun | n => n⟩
theorem Try.lays208 : Go.Proofs.Lays.n208 Try.prog Try.lays208_ren := {
  mixed := by kernel_rfl
  f206 := Try.func119.trans (congrArg some (by kernel_rfl))
  f208 := Try.func106.trans (congrArg some (by kernel_rfl))
  t3 := Try.underlying3
  a3 := Try.isAgg3
  z3 := Try.sizeOf3
  v3 := Try.zeroValue3
  t4 := Try.underlying4
  a4 := Try.isAgg4
  z4 := Try.sizeOf4
  v4 := Try.zeroValue4
  t9 := Try.underlying9
  a9 := Try.isAgg9
  z9 := Try.sizeOf9
  v9 := Try.zeroValue9 }
open Go.RowKit Go.Lib in
theorem Try.stringslite_TrimPrefix (s p : ByteArray) (w : World) :
    Calls Try.prog 106 #[.string s, .string p] w fun e w' => e = .returned (.string ⟨(Lib.trimPrefix s.data.toList p.data.toList).toArray⟩) ∧ w' = w := Any.stringslite_TrimPrefix Try.lays208 s p w
def Try.lays101_ren : Go.Shelf.Ren := ⟨fun | 101 => 80 | 208 => 106 | 206 => 119 | n => n, fun | 9 => 9 | 4 => 4 | 3 => 3 | n => n, fun | n => n⟩
theorem Try.lays101 : Go.Proofs.Lays.n101 Try.prog Try.lays101_ren := {
  mixed := by kernel_rfl
  f101 := Try.func80.trans (congrArg some (by kernel_rfl))
  f206 := Try.func119.trans (congrArg some (by kernel_rfl))
  f208 := Try.func106.trans (congrArg some (by kernel_rfl))
  t3 := Try.underlying3
  a3 := Try.isAgg3
  z3 := Try.sizeOf3
  v3 := Try.zeroValue3
  t4 := Try.underlying4
  a4 := Try.isAgg4
  z4 := Try.sizeOf4
  v4 := Try.zeroValue4
  t9 := Try.underlying9
  a9 := Try.isAgg9
  z9 := Try.sizeOf9
  v9 := Try.zeroValue9 }
open Go.RowKit Go.Lib in
theorem Try.strings_TrimPrefix (s p : ByteArray) (w : World) :
    Calls Try.prog 80 #[.string s, .string p] w fun e w' => e = .returned (.string ⟨(Lib.trimPrefix s.data.toList p.data.toList).toArray⟩) ∧ w' = w := Any.strings_TrimPrefix Try.lays101 s p w
open Go.RowKit Go.Lib in
theorem Try.strings_indexFunc_grows (g : Nat) (lb : Array Value) (eg : ∀ args w, (callFunc g args).run Try.prog w = .ok (.enter g args) w) (p : Nat → Bool) (truth : Bool) (s : ByteArray) (w : World) (hp : PredGrows Try.prog g lb p w) :
    Calls Try.prog 120 #[.string s, .func (.func g) #[] lb, .bool truth] w fun e w' => e = .returned (.int .i64 (Lib.idxFunc p truth s)) ∧ Below w.heap.size w w' := Any.strings_indexFunc_grows Try.lays315 g lb eg p truth s w hp
open Go.RowKit Go.Lib in
theorem Try.strings_IndexFunc_grows (g : Nat) (lb : Array Value) (eg : ∀ args w, (callFunc g args).run Try.prog w = .ok (.enter g args) w) (p : Nat → Bool) (s : ByteArray) (w : World) (hp : PredGrows Try.prog g lb p w) :
    Calls Try.prog 107 #[.string s, .func (.func g) #[] lb] w fun e w' => e = .returned (.int .i64 (Lib.idxFunc p true s)) ∧ Below w.heap.size w w' := Any.strings_IndexFunc_grows Try.laysGw15 g lb eg p s w hp
open Go.RowKit Go.Lib in
theorem Try.strings_ContainsFunc_grows (g : Nat) (lb : Array Value) (eg : ∀ args w, (callFunc g args).run Try.prog w = .ok (.enter g args) w) (p : Nat → Bool) (s : ByteArray) (w : World) (hp : PredGrows Try.prog g lb p w) :
    Calls Try.prog 81 #[.string s, .func (.func g) #[] lb] w fun e w' => e = .returned (.bool (decide (0 ≤ Lib.idxFunc p true s))) ∧ Below w.heap.size w w' := Any.strings_ContainsFunc_grows Try.laysGw17 g lb eg p s w hp
end Go.Proofs
end
section
namespace Go.Proofs.Ytdelccahgchadaa.P
open Go.RowKit Go.Shelf Go.Lib Go.Proofs.YtdelccahgchadaaW.PrintWords Go.Proofs.YtdelccahgchadaaW.PrintLast Go.Proofs.YtdelccahgchadaaW.PrintMore
set_option linter.unusedVariables false
set_option linter.unusedSimpArgs false
def strings_TrimPrefix.f (a0 a1 : ByteArray) : Option ByteArray := some ⟨(Lib.trimPrefix a0.data.toList a1.data.toList).toArray⟩
theorem strings_TrimPrefix.calls (a0 a1 r : ByteArray) (w : World) (h : strings_TrimPrefix.f a0 a1 = some r) :
  Calls Try.prog 80 #[.string a0, .string a1] w fun e w' => e = .returned (.string r) ∧ Drawn0 w w' := by
 obtain rfl := Option.some.inj h
 refine (Try.strings_TrimPrefix a0 a1 w).mono ?_
 rintro e w' ⟨rfl, rfl⟩
 exact ⟨rfl, Drawn0.refl _⟩
def strings_IndexByte.f (a0 : ByteArray) (a1 : Int) : Option Int := some (Lib.indexByte a0.data.toList a1.toNat.toUInt8)
theorem strings_IndexByte.calls (a0 : ByteArray) (a1 : Int) (r : Int) (w : World) (h : strings_IndexByte.f a0 a1 = some r) :
  Calls Try.prog 90 #[.string a0, .int .u8 a1] w fun e w' => e = .returned (.int .i64 r) ∧ Drawn0 w w' := by
 obtain rfl := Option.some.inj h
 refine (Try.strings_IndexByte a0 a1 w).mono ?_
 rintro e w' ⟨rfl, rfl⟩
 exact ⟨rfl, Drawn0.refl _⟩
theorem spot_none {w : World} {bk o : Nat} {sp : Option Nat} {v : Value} (h : w.cell? ((⟨bk, o, sp⟩ : Addr).add 0) = some v) : sp = none := by
 cases sp with
 | none => rfl
 | some n =>
  exfalso
  unfold World.cell? Addr.add at h
  simp at h
  split at h <;> simp at h
def joinB (l : List ByteArray) (sep : ByteArray) : List UInt8 := Lib.join (l.map (·.data.toList)) sep.data.toList
def strings_Join.f (l0 : List ByteArray) (a1 : ByteArray) : Option ByteArray := if l0.length ≤ 140737488355328 ∧ (joinB l0 a1).length ≤ 140737488355328 then some ⟨(joinB l0 a1).toArray⟩ else none
theorem strings_Join.calls (A0 : Option Addr) (c0 : Nat) (l0 : List ByteArray) (a1 : ByteArray) (r : ByteArray) (w : World) (hr0 : Kd.C Kd.string w A0 l0.length l0) (hc0 : l0.length ≤ c0) (h : strings_Join.f l0 a1 = some r) :
  Calls Try.prog 103 #[.slice A0 l0.length c0, .string a1] w fun e w' => e = .returned (.string r) ∧ Below w.heap.size w w' := by
 unfold strings_Join.f at h
 by_cases hb : l0.length ≤ 140737488355328 ∧ (joinB l0 a1).length ≤ 140737488355328
 ·rw [if_pos hb] at h
  obtain rfl := Option.some.inj h
  by_cases h0 : l0 = []
  ·subst h0
   refine (Try.strings_Join_none A0 c0 a1 w).mono ?_
   rintro e w' ⟨rfl, rfl⟩
   exact ⟨by simp [joinB, Lib.join], Below.refl _ _⟩
  ·obtain ⟨ad, rfl, hc⟩ := hr0.2.2 (by cases l0 with | nil => exact absurd rfl h0 | cons => simp)
   have hcell : ∀ j x, l0[j]? = some x → w.cell? (ad.add j) = some (.string x) := fun j x hj => by
    obtain ⟨c, hs, rfl, hcc⟩ := hc j x hj
    have := hcc 0 _ rfl
    rw [show (Kd.string).sz = 1 from rfl, Nat.mul_one, Nat.add_zero] at this
    exact this
   obtain ⟨x0, hx0⟩ : ∃ x, l0[0]? = some x := by
    cases l0 with
    | nil => exact absurd rfl h0
    | cons x l => exact ⟨x, rfl⟩
   have h1 := hcell 0 x0 hx0
   have hlt := World.block_lt_of_cell? w _ h1
   obtain ⟨bk, o, sp⟩ := ad
   obtain rfl : sp = none := spot_none h1
   refine (Try.strings_Join bk o c0 l0 a1 w (fun j x hj => ?_) hlt hb.1 hc0 hb.2).mono ?_
   ·rw [← hcell j x hj]
    by_cases hj0 : j = 0
    ·subst hj0; rfl
    ·simp [Addr.add, hj0]
   ·rintro e w' ⟨rfl, hbl⟩
    exact ⟨rfl, hbl⟩
 ·rw [if_neg hb] at h
  cases h
def noFig (r : Nat) : Bool := decide (r < 48) || decide (57 < r)
theorem may1 (w : World) : PredAt Try.prog 82 #[] encR noFig w := fun W r _ => by
 unfold FnGives
 by_cases h1 : r < 48
 all_goals by_cases h2 : 57 < r
 all_goals
  have z1 : (r : Int) < 48 ↔ r < 48 := by omega
  have z2 : (57 : Int) < (r : Int) ↔ 57 < r := by omega
  go_enter Try.func82, Try.ntmps82
  go_wp2
  all_goals first | (exfalso; omega) | (go_ret; exact ⟨by simp [noFig, h1, h2], 0, rfl⟩)
def isFig (c : UInt8) : Bool := decide (48 ≤ c.toNat) && decide (c.toNat ≤ 57)
theorem fig_idx (s : ByteArray) : ∀ (f pos : Nat), s.size ≤ pos + f → (0 ≤ Lib.idxFuncFrom noFig true s f pos ↔ ∃ j, ∃ h : j < s.size, pos ≤ j ∧ isFig s[j] = false)
 | 0, pos, hf => by
  simp only [Lib.idxFuncFrom]
  constructor
  ·intro h; omega
  ·rintro ⟨j, hj, hp, _⟩; omega
 | f + 1, pos, hf => by
  unfold Lib.idxFuncFrom
  by_cases hp : pos < s.size
  ·rw [if_pos hp]
   by_cases ha : (s[pos]'hp).toNat < 128
   ·rw [decode_ascii s pos hp ha]
    simp only []
    by_cases hg : noFig (s[pos]'hp).toNat = true
    ·rw [if_pos hg]
     constructor
     ·intro _
      refine ⟨pos, hp, Nat.le_refl _, ?_⟩
      unfold noFig at hg
      unfold isFig
      simp at hg ⊢
      omega
     ·intro _; omega
    ·rw [if_neg hg, fig_idx s f (pos + 1) (by omega)]
     constructor
     ·rintro ⟨j, hj, hle, hh⟩
      exact ⟨j, hj, by omega, hh⟩
     ·rintro ⟨j, hj, hle, hh⟩
      by_cases hjp : j = pos
      ·subst hjp
       unfold noFig at hg
       unfold isFig at hh
       simp at hg hh
       omega
      ·exact ⟨j, hj, by omega, hh⟩
   ·have hd := decode_high s pos hp (by omega)
    rw [if_pos (by unfold noFig; simp; omega)]
    constructor
    ·intro _
     refine ⟨pos, hp, Nat.le_refl _, ?_⟩
     unfold isFig
     simp
     omega
    ·intro _; omega
  ·rw [if_neg hp]
   constructor
   ·intro h; omega
   ·rintro ⟨j, hj, hle, _⟩; omega
def allFig (s : ByteArray) : Bool := s.data.toList.all isFig
theorem contains_nofig (s : ByteArray) : decide (0 ≤ Lib.idxFunc noFig true s) = !allFig s := by
 have h := fig_idx s s.size 0 (by omega)
 have e : (∃ j, ∃ h : j < s.size, 0 ≤ j ∧ isFig s[j] = false) ↔ allFig s = false := by
  unfold allFig
  rw [List.all_eq_false]
  constructor
  ·rintro ⟨j, hj, _, hh⟩
   exact ⟨s[j], by rw [Array.mem_toList_iff]; exact Array.getElem_mem hj, by rw [hh]; decide⟩
  ·rintro ⟨x, hx, hh⟩
   rw [Array.mem_toList_iff] at hx
   obtain ⟨j, hj, rfl⟩ := Array.getElem_of_mem hx
   exact ⟨j, hj, Nat.zero_le _, (Bool.not_eq_true _).mp hh⟩
 unfold Lib.idxFunc
 have h2 := h.trans e
 by_cases ha : allFig s = false
 ·rw [decide_eq_true (h2.2 ha), ha]; rfl
 ·rw [decide_eq_false (fun h3 => ha (h2.1 h3)), (Bool.not_eq_false _).mp ha]; rfl
def ContainsFunc_May.f (a0 : ByteArray) : Option Bool := some (!allFig a0)
theorem ContainsFunc_May.calls (a0 : ByteArray) (r : Bool) (w : World) (h : ContainsFunc_May.f a0 = some r) :
  Calls Try.prog 81 #[.string a0, .func (.func 82) #[] #[]] w fun e w' => e = .returned (.bool r) ∧ Below w.heap.size w w' := by
 obtain rfl := Option.some.inj h
 refine (Try.strings_ContainsFunc 82 #[] (enters_of Try.func82 (by kernel_rfl) rfl) noFig a0 w (may1 w)).mono ?_
 rintro e w' ⟨rfl, hb⟩
 exact ⟨by rw [contains_nofig], hb⟩
def runN (p : Int → Bool) (s : ByteArray) : Nat := (s.data.toList.takeWhile fun c => p (c.toNat : Int)).length
theorem runN_at (p : Int → Bool) (s : ByteArray) (k : Nat) (hk : k ≤ s.size) (h : ∀ j, ∀ hj : j < k, p ((s[j]'(by omega)).toNat : Int) = true) (he : ∀ hl : k < s.size, p ((s[k]'hl).toNat : Int) = false) : runN p s = k := by
 unfold runN
 have hl : s.data.toList = s.data.toList.take k ++ s.data.toList.drop k := (List.take_append_drop _ _).symm
 rw [hl, List.takeWhile_append_of_pos]
 ·rw [List.length_append, List.length_take]
  have h0 : (List.takeWhile (fun c : UInt8 => p (c.toNat : Int)) (List.drop k s.data.toList)) = [] := by
   by_cases hlt : k < s.size
   ·rw [List.drop_eq_getElem_cons (by simpa using hlt), List.takeWhile_cons]
    have := he hlt
    rw [if_neg]
    simp only [Array.getElem_toList]
    rw [show s.data[k] = s[k] from rfl, this]
    decide
   ·rw [List.drop_eq_nil_of_le (by simpa using Nat.le_of_not_lt hlt)]
    rfl
  rw [h0]
  have : s.data.toList.length = s.size := by simp
  simp
  omega
 ·intro a ha
  obtain ⟨i, hi, rfl⟩ := List.getElem_of_mem ha
  rw [List.length_take] at hi
  rw [List.getElem_take]
  exact h i (by omega)
set_option maxHeartbeats 1000000 in
theorem run_any (g : Nat) (eg : ∀ args w, (callFunc g args).run Try.prog w = .ok (.enter g args) w) (p : Int → Bool) (hd0 : ∀ c W, Calls Try.prog g #[.int .u8 c] W fun e w' => e = .returned (.bool (p c)) ∧ W = w')
  (s : ByteArray) (hs : s.size ≤ 4611686018427387904) (w : World) :
  Calls Try.prog 85 #[.string s, .func (.func g) #[] #[]] w fun e w' => e = .returned (.int .i64 (runN p s)) ∧ w = w' := by
 have hd := Aside0.mk hd0
 clear hd0
 go_enter Try.func85, Try.ntmps85
 go_wp2
 go_loop [5] (fun t => ∃ k : Nat, k ≤ s.size ∧ t = .int .i64 k ∧ Aside0 (∀ j, ∀ hj : j < k, ∀ hjs : j < s.size, p ((s[j]'hjs).toNat : Int) = true)) (fun t => s.size - (intOf t).toNat)
 case atStart => exact ⟨0, Nat.zero_le _, rfl, ⟨fun j hj => absurd hj (Nat.not_lt_zero _)⟩⟩
 case round =>
  obtain ⟨k, hk, rfl, hp⟩ := hrel
  by_cases hlt : k < s.size
  ·generalize hb : p ((s[k]'hlt).toNat : Int) = b
   have hB := Aside0.mk hb
   clear hb
   cases b
   ·go_wp2_with (go_at_fn g; refine (hd.out _ _).mono ?_; rintro e w' ⟨rfl, rfl⟩; rw [hB.out])
    go_ret
    exact ⟨ret_int (by rw [runN_at p s k hk (fun j hj => hp.out j hj (by omega)) (fun _ => hB.out)]), rfl⟩
   ·go_wp2_with (go_at_fn g; refine (hd.out _ _).mono ?_; rintro e w' ⟨rfl, rfl⟩; rw [hB.out])
    go_round
    case rel => exact ⟨k + 1, by omega, by go_num, ⟨fun j hj hjs => by
     by_cases hjk : j = k
     ·subst hjk; exact hB.out
     ·exact hp.out j (by omega) hjs⟩⟩
    case measure => simp [intOf]; omega
  ·go_wp2
   go_ret
   exact ⟨ret_int (by rw [runN_at p s k hk (fun j hj => hp.out j hj (by omega)) (fun hl => absurd hl hlt)]), rfl⟩
def isD (c : Int) : Bool := decide (48 ≤ c ∧ c ≤ 57)
def isLow (c : Int) : Bool := decide (97 ≤ c ∧ c ≤ 122)
def isUp (c : Int) : Bool := decide (65 ≤ c ∧ c ≤ 90)
set_option maxHeartbeats 400000 in
theorem figure_any (c : Int) (w : World) : Calls Try.prog 87 #[.int .u8 c] w fun e w' => e = .returned (.bool (isD c)) ∧ w = w' := by
 by_cases h1 : 48 ≤ c
 all_goals by_cases h2 : c ≤ 57
 all_goals
  go_enter Try.func87, Try.ntmps87
  go_wp2
  go_ret
  exact ⟨ret_bool (by simp [isD, h1, h2]), rfl⟩
set_option maxHeartbeats 400000 in
theorem small_any (c : Int) (w : World) : Calls Try.prog 84 #[.int .u8 c] w fun e w' => e = .returned (.bool (isLow c)) ∧ w = w' := by
 by_cases h1 : 97 ≤ c
 all_goals by_cases h2 : c ≤ 122
 all_goals
  go_enter Try.func84, Try.ntmps84
  go_wp2
  go_ret
  exact ⟨ret_bool (by simp [isLow, h1, h2]), rfl⟩
set_option maxHeartbeats 400000 in
theorem great_any (c : Int) (w : World) : Calls Try.prog 88 #[.int .u8 c] w fun e w' => e = .returned (.bool (isUp c)) ∧ w = w' := by
 by_cases h1 : 65 ≤ c
 all_goals by_cases h2 : c ≤ 90
 all_goals
  go_enter Try.func88, Try.ntmps88
  go_wp2
  go_ret
  exact ⟨ret_bool (by simp [isUp, h1, h2]), rfl⟩
def isWordC (c : Int) : Bool := isLow c || isD c
def isVerbC (c : Int) : Bool := isLow c || isUp c || isD c
set_option maxHeartbeats 400000 in
theorem first1_any (c : Int) (w : World) : Calls Try.prog 86 #[.int .u8 c] w fun e w' => e = .returned (.bool (isWordC c)) ∧ w = w' := by
 generalize h1 : isLow c = b1
 have H1 := Aside0.mk h1
 clear h1
 cases b1
 all_goals
  go_enter Try.func86, Try.ntmps86
  go_wp2_with (first | (go_at_call 84; refine (small_any _ _).mono ?_; rintro e w' ⟨rfl, rfl⟩; rw [H1.out]) | (go_at_call 87; refine (figure_any _ _).mono ?_; rintro e w' ⟨rfl, rfl⟩))
  go_ret
  exact ⟨ret_bool (by simp [isWordC, H1.out]), rfl⟩
set_option maxHeartbeats 400000 in
theorem first2_any (c : Int) (w : World) : Calls Try.prog 89 #[.int .u8 c] w fun e w' => e = .returned (.bool (isVerbC c)) ∧ w = w' := by
 generalize h1 : isLow c = b1
 generalize h2 : isUp c = b2
 have H1 := Aside0.mk h1
 have H2 := Aside0.mk h2
 clear h1 h2
 cases b1
 all_goals cases b2
 all_goals
  go_enter Try.func89, Try.ntmps89
  go_wp2_with (first | (go_at_call 84; refine (small_any _ _).mono ?_; rintro e w' ⟨rfl, rfl⟩; rw [H1.out]) | (go_at_call 88; refine (great_any _ _).mono ?_; rintro e w' ⟨rfl, rfl⟩; rw [H2.out]) | (go_at_call 87; refine (figure_any _ _).mono ?_; rintro e w' ⟨rfl, rfl⟩))
  go_ret
  exact ⟨ret_bool (by simp [isVerbC, H1.out, H2.out]), rfl⟩
def runO (p : Int → Bool) (s : ByteArray) : Option Int := if s.size ≤ 4611686018427387904 then some (runN p s : Int) else none
theorem runO_spec {p : Int → Bool} {s : ByteArray} {r : Int} (h : runO p s = some r) : s.size ≤ 4611686018427387904 ∧ (runN p s : Int) = r := by
 unfold runO at h
 by_cases hs : s.size ≤ 4611686018427387904
 ·rw [if_pos hs] at h; exact ⟨hs, Option.some.inj h⟩
 ·rw [if_neg hs] at h; cases h
def run_figure.f (a0 : ByteArray) : Option Int := runO isD a0
theorem run_figure.calls (a0 : ByteArray) (r : Int) (w : World) (h : run_figure.f a0 = some r) :
  Calls Try.prog 85 #[.string a0, .func (.func 87) #[] #[]] w fun e w' => e = .returned (.int .i64 r) ∧ Drawn0 w w' := by
 obtain ⟨hs, rfl⟩ := runO_spec h
 refine (run_any 87 (enters_of Try.func87 (by kernel_rfl) rfl) isD figure_any a0 hs w).mono ?_
 rintro e w' ⟨rfl, rfl⟩
 exact ⟨rfl, Drawn0.refl _⟩
def run_word.f (a0 : ByteArray) : Option Int := runO isWordC a0
theorem run_word.calls (a0 : ByteArray) (r : Int) (w : World) (h : run_word.f a0 = some r) :
  Calls Try.prog 85 #[.string a0, .func (.func 86) #[] #[]] w fun e w' => e = .returned (.int .i64 r) ∧ Drawn0 w w' := by
 obtain ⟨hs, rfl⟩ := runO_spec h
 refine (run_any 86 (enters_of Try.func86 (by kernel_rfl) rfl) isWordC first1_any a0 hs w).mono ?_
 rintro e w' ⟨rfl, rfl⟩
 exact ⟨rfl, Drawn0.refl _⟩
def run_verb.f (a0 : ByteArray) : Option Int := runO isVerbC a0
theorem run_verb.calls (a0 : ByteArray) (r : Int) (w : World) (h : run_verb.f a0 = some r) :
  Calls Try.prog 85 #[.string a0, .func (.func 89) #[] #[]] w fun e w' => e = .returned (.int .i64 r) ∧ Drawn0 w w' := by
 obtain ⟨hs, rfl⟩ := runO_spec h
 refine (run_any 89 (enters_of Try.func89 (by kernel_rfl) rfl) isVerbC first2_any a0 hs w).mono ?_
 rintro e w' ⟨rfl, rfl⟩
 exact ⟨rfl, Drawn0.refl _⟩
end Go.Proofs.Ytdelccahgchadaa.P
end
section
namespace Go.Proofs.Ytdelccahgchadaa.P
open Go.RowKit Go.Proofs.Ytdelccahgchadaa Go.Proofs.YtdelccahgchadaaW.PrintWords Go.Proofs.YtdelccahgchadaaW.PrintLast Go.Proofs.YtdelccahgchadaaW.PrintMore
set_option linter.unusedVariables false
def strings_Contains.f (a0 a1 : ByteArray) : Option Bool := match a1.data.toList with | [c] => some (a0.data.toList.contains c) | _ => none
theorem strings_Contains.calls (a0 a1 : ByteArray) (r : Bool) (w : World) (h : strings_Contains.f a0 a1 = some r) :
  Calls Try.prog 83 #[.string a0, .string a1] w fun e w' => e = .returned (.bool r) ∧ Drawn0 w w' := by
 unfold strings_Contains.f at h
 cases hl : a1.data.toList with
 | nil => rw [hl] at h; cases h
 | cons c l =>
  cases l with
  | cons d l => rw [hl] at h; cases h
  | nil =>
   rw [hl] at h
   obtain rfl := Option.some.inj h
   obtain rfl : a1 = ⟨#[c]⟩ := by
    cases a1 with
    | mk d => congr 1; exact Array.toList_inj.1 hl
   refine (Try.strings_Contains_one a0 c w).mono ?_
   rintro e w' ⟨rfl, rfl⟩
   exact ⟨by rw [Lib.contains_iff_indexByte], Drawn0.refl _⟩
end Go.Proofs.Ytdelccahgchadaa.P
end
section
namespace Go.Proofs.Ytdelccahgchadaa.P
open Go.RowKit Go.Proofs.YtdelccahgchadaaW.PrintWords Go.Proofs.YtdelccahgchadaaW.PrintLast Go.Proofs.YtdelccahgchadaaW.PrintMore
attribute [local go_sem] max2_int min2_int max_two min_two max_three min_three max_four min_four   
set_option linter.unusedVariables false
set_option linter.unusedSimpArgs false
mutual
def reredosref01_May.j0 : Nat → ByteArray → Int → Bool → Option (Bool)
 | 0, _, _, _ => none
 | k + 1, x0, x3, x13 => if x13 = true then (reredosref01_May.j1 k x0 1) else (reredosref01_May.j1 k x0 x3)
def reredosref01_May.j1 : Nat → ByteArray → Int → Option (Bool)
 | 0, _, _ => none
 | k + 1, x0, x3 => if (wrap64 ((x0.size : Int) - x3)) < 1 then (reredosref01_May.j2 k x0 x3 true) else (if (wrap64 ((x0.size : Int) - x3)) > 100 then (reredosref01_May.j2 k x0 x3 true) else (if 0 ≤ x3 then (if x3 < (x0.size : Int) then (reredosref01_May.j2 k x0 x3 ((bt x0 x3) == 48)) else (none)) else (none)))
def reredosref01_May.j2 : Nat → ByteArray → Int → Bool → Option (Bool)
 | 0, _, _, _ => none
 | k + 1, x0, x3, x31 => if x31 = true then (some false) else (reredosref01_May.l0 k x0 x3)
def reredosref01_May.l0 : Nat → ByteArray → Int → Option (Bool)
 | 0, _, _ => none
 | k + 1, x0, x4 => if x4 < (x0.size : Int) then (if 0 ≤ x4 then (if (bt x0 x4) < 48 then (some false) else (if (bt x0 x4) > 57 then (some false) else (reredosref01_May.l0 k x0 (wrap64 (x4 + 1))))) else (none)) else (some true)
end
def reredosref01_May.f (k : Nat) (a0 : ByteArray) : Option (Bool) := if a0.toList = ([48] : List UInt8) then (some true) else (if a0.toList = ([] : List UInt8) then (reredosref01_May.j0 k a0 0 false) else (if 0 < (a0.size : Int) then (reredosref01_May.j0 k a0 0 ((bt a0 0) == 45)) else (none)))
theorem reredosref01_May.mono_l : ∀ k, (∀ y0 y1 y2, LeO (reredosref01_May.j0 k y0 y1 y2) (reredosref01_May.j0 (k + 1) y0 y1 y2)) ∧ (∀ y0 y1, LeO (reredosref01_May.j1 k y0 y1) (reredosref01_May.j1 (k + 1) y0 y1)) ∧ (∀ y0 y1 y2, LeO (reredosref01_May.j2 k y0 y1 y2) (reredosref01_May.j2 (k + 1) y0 y1 y2)) ∧ (∀ y0 y1, LeO (reredosref01_May.l0 k y0 y1) (reredosref01_May.l0 (k + 1) y0 y1))
 | 0 => ⟨fun _ _ _ r h => by simp [reredosref01_May.j0] at h, fun _ _ r h => by simp [reredosref01_May.j1] at h, fun _ _ _ r h => by simp [reredosref01_May.j2] at h, fun _ _ r h => by simp [reredosref01_May.l0] at h⟩
 | k + 1 => by
  obtain ⟨ih0, ih1, ih2, ih3⟩ := reredosref01_May.mono_l k
  refine ⟨?_, ?_, ?_, ?_⟩
  ·intro y0 y1 y2
   unfold reredosref01_May.j0
   repeat' first
   | (with_reducible exact ih0 _ _ _)
   | (with_reducible exact ih1 _ _)
   | (with_reducible exact ih2 _ _ _)
   | (with_reducible exact ih3 _ _)
   | (with_reducible exact LeO.refl _)
   | (with_reducible exact LeO.none _)
   | (with_reducible refine LeO.ite ?_ ?_)
   | (with_reducible refine LeO.bind ?_ (fun _ => ?_))
   | exact ih0 _ _ _
   | exact ih1 _ _
   | exact ih2 _ _ _
   | exact ih3 _ _
   | exact LeO.none _
   | refine LeO.ite ?_ ?_
   | refine LeO.bind ?_ (fun _ => ?_)
  ·intro y0 y1
   unfold reredosref01_May.j1
   repeat' first
   | (with_reducible exact ih0 _ _ _)
   | (with_reducible exact ih1 _ _)
   | (with_reducible exact ih2 _ _ _)
   | (with_reducible exact ih3 _ _)
   | (with_reducible exact LeO.refl _)
   | (with_reducible exact LeO.none _)
   | (with_reducible refine LeO.ite ?_ ?_)
   | (with_reducible refine LeO.bind ?_ (fun _ => ?_))
   | exact ih0 _ _ _
   | exact ih1 _ _
   | exact ih2 _ _ _
   | exact ih3 _ _
   | exact LeO.none _
   | refine LeO.ite ?_ ?_
   | refine LeO.bind ?_ (fun _ => ?_)
  ·intro y0 y1 y2
   unfold reredosref01_May.j2
   repeat' first
   | (with_reducible exact ih0 _ _ _)
   | (with_reducible exact ih1 _ _)
   | (with_reducible exact ih2 _ _ _)
   | (with_reducible exact ih3 _ _)
   | (with_reducible exact LeO.refl _)
   | (with_reducible exact LeO.none _)
   | (with_reducible refine LeO.ite ?_ ?_)
   | (with_reducible refine LeO.bind ?_ (fun _ => ?_))
   | exact ih0 _ _ _
   | exact ih1 _ _
   | exact ih2 _ _ _
   | exact ih3 _ _
   | exact LeO.none _
   | refine LeO.ite ?_ ?_
   | refine LeO.bind ?_ (fun _ => ?_)
  ·intro y0 y1
   unfold reredosref01_May.l0
   repeat' first
   | (with_reducible exact ih0 _ _ _)
   | (with_reducible exact ih1 _ _)
   | (with_reducible exact ih2 _ _ _)
   | (with_reducible exact ih3 _ _)
   | (with_reducible exact LeO.refl _)
   | (with_reducible exact LeO.none _)
   | (with_reducible refine LeO.ite ?_ ?_)
   | (with_reducible refine LeO.bind ?_ (fun _ => ?_))
   | exact ih0 _ _ _
   | exact ih1 _ _
   | exact ih2 _ _ _
   | exact ih3 _ _
   | exact LeO.none _
   | refine LeO.ite ?_ ?_
   | refine LeO.bind ?_ (fun _ => ?_)
theorem reredosref01_May.mono : ∀ a0 k, LeO (reredosref01_May.f k a0) (reredosref01_May.f (k + 1) a0) := by
 intro a0 k
 obtain ⟨ih0, ih1, ih2, ih3⟩ := reredosref01_May.mono_l k
 unfold reredosref01_May.f
 repeat' first
   | (with_reducible exact ih0 _ _ _)
   | (with_reducible exact ih1 _ _)
   | (with_reducible exact ih2 _ _ _)
   | (with_reducible exact ih3 _ _)
   | (with_reducible exact LeO.refl _)
   | (with_reducible exact LeO.none _)
   | (with_reducible refine LeO.ite ?_ ?_)
   | (with_reducible refine LeO.bind ?_ (fun _ => ?_))
   | exact ih0 _ _ _
   | exact ih1 _ _
   | exact ih2 _ _ _
   | exact ih3 _ _
   | exact LeO.none _
   | refine LeO.ite ?_ ?_
   | refine LeO.bind ?_ (fun _ => ?_)
set_option maxHeartbeats 8000000 in
set_option maxRecDepth 100000 in
theorem reredosref01_May.calls (k : Nat) (a0 : ByteArray) (r : Bool) (w : World) (h : reredosref01_May.f k a0 = some r) :
  Calls Try.prog 61 #[.string a0] w fun e w' => e = .returned (.bool r) ∧ Drawn0 w w' := by
 have H : (if a0.toList = ([48] : List UInt8) then (some true) else (if a0.toList = ([] : List UInt8) then (reredosref01_May.j0 k a0 0 false) else (if 0 < (a0.size : Int) then (reredosref01_May.j0 k a0 0 ((bt a0 0) == 45)) else (none)))) = some r := h
 clear h
 by_cases c2 : a0.toList = ([48] : List UInt8)
 ·rw [if_pos c2] at H
  have c2b0 := eT c2
  have c2b1 := nF c2
  clear c2
  obtain rfl := Option.some.inj H
  go_enter Try.func61, Try.ntmps61
  go_wp2
  go_ret
  exact ⟨yS, by repeat (first | exact Drawn0.refl _ | apply Drawn0.step)⟩
 ·rw [if_neg c2] at H
  have c2b0 := eF c2
  have c2b1 := nT c2
  have HC3 := am H
  clear H
  go_enter Try.func61, Try.ntmps61
  go_upto_region 4 with (fail)
  go_cut [13] (fun v13 wc => ∃ (kq : Nat) (x13_2 : Bool), v13 = .bool x13_2 ∧ Aside0 (reredosref01_May.j0 kq a0 0 x13_2 = some r) ∧ Aside0 (kq ≤ k) ∧ Drawn0 w wc)
  case first =>
   have H := HC3.out
   clear HC3
   by_cases c4 : a0.toList = ([] : List UInt8)
   ·rw [if_pos c4] at H
    have c4b0 := eT c4
    have c4b1 := nF c4
    clear c4
    (first | rw [c4b0] | (simp only [i64_w, i32_w]; rw [c4b0]) | skip)
    have H' := am H
    clear H
    go_wp2
    go_meet
    case rel => exact ⟨_, (false), yS, H', ⟨yO⟩, by repeat (first | exact Drawn0.refl _ | apply Drawn0.step)⟩
   ·rw [if_neg c4] at H
    have c4b0 := eF c4
    have c4b1 := nT c4
    (first | rw [c4b0] | (simp only [i64_w, i32_w]; rw [c4b0]) | skip)
    by_cases c5 : 0 < (a0.size : Int)
    ·rw [if_pos c5] at H
     have c5b0 : decide (0 < (a0.size : Int)) = true := decide_eq_true c5
     have c5b1 : decide (0 < a0.size) = true := decide_eq_true (by omega)
     clear c5
     have H' := am H
     clear H
     have p6 : 0 ≤ (0 : Int) := (by omega)
     have q6 : 0 < a0.size := (by have : (0 : Int) < (a0.size : Int) := of_decide_eq_true yY; omega)
     have hx6 : ∀ h : 0 < a0.size, ((a0[0]'h).toNat : Int) = bt a0 0 := bt_at a0 0
     clear p6
     have qi6 : (0 < (a0.size : Int)) = True := eq_true (of_decide_eq_true yY)
     replace q6 := eq_true q6
     go_wp2
     go_meet
     case rel => exact ⟨_, (((bt a0 0) == 45)), yS, H', ⟨yO⟩, by repeat (first | exact Drawn0.refl _ | apply Drawn0.step)⟩
    ·rw [if_neg c5] at H
     exact absurd H (by simp)
  case rest =>
   clear HC3
   try clear c2
   try clear c2b0
   try clear c2b1
   try clear p2
   try clear c4
   try clear c4b0
   try clear c4b1
   try clear c5
   try clear c5b0
   try clear c5b1
   try clear c6
   try clear p6
   try clear q6
   try clear hx6
   try clear qi6
   try clear p6
   try clear q6
   obtain ⟨kq, x13_2, rfl, HA, HJ2, ⟨mc2, rfl⟩⟩ := hcut
   cases kq with
   | zero => exact absurd HA.out (by simp [reredosref01_May.j0])
   | succ kj2 =>
    have H := HA.out
    clear HA
    simp only [reredosref01_May.j0] at H
    have HC7 := am H
    clear H
    go_upto_if 13 with (fail)
    go_cut [3] (fun v3 wc => ∃ (kq : Nat) (x3_6 : Int), v3 = .int .i64 x3_6 ∧ Aside0 (reredosref01_May.j1 kq a0 x3_6 = some r) ∧ Aside0 (kq ≤ kj2) ∧ Drawn0 w wc)
    case first =>
     have H := HC7.out
     clear HC7
     by_cases c8 : x13_2 = true
     ·subst c8
      rw [if_pos rfl] at H
      have H' := am H
      clear H
      go_wp2
      go_meet
      case rel => exact ⟨_, (1), yS, H', ⟨by have := HJ2.out; first | omega | exact Nat.le_refl _⟩, by repeat (first | exact Drawn0.refl _ | apply Drawn0.step)⟩
     ·replace c8 := Bool.eq_false_iff.mpr c8
      subst c8
      rw [if_neg (show ¬ (false = true) by decide)] at H
      have H' := am H
      clear H
      go_wp2
      go_meet
      case rel => exact ⟨_, (0), yS, H', ⟨by have := HJ2.out; first | omega | exact Nat.le_refl _⟩, by repeat (first | exact Drawn0.refl _ | apply Drawn0.step)⟩
    case rest =>
     clear HC7
     try clear c2
     try clear c2b0
     try clear c2b1
     try clear p2
     try clear c4
     try clear c4b0
     try clear c4b1
     try clear c5
     try clear c5b0
     try clear c5b1
     try clear c6
     try clear p6
     try clear q6
     try clear hx6
     try clear qi6
     try clear c8
     try clear p2
     try clear p6
     try clear q6
     obtain ⟨kq, x3_6, rfl, HA, HJ6, ⟨mc6, rfl⟩⟩ := hcut
     cases kq with
     | zero => exact absurd HA.out (by simp [reredosref01_May.j1])
     | succ kj6 =>
      have H := HA.out
      clear HA
      simp only [reredosref01_May.j1] at H
      have HC9 := am H
      clear H
      go_upto_region 6 with (fail)
      go_cut [31] (fun v31 wc => ∃ (kq : Nat) (x31_8 : Bool), v31 = .bool x31_8 ∧ Aside0 (reredosref01_May.j2 kq a0 x3_6 x31_8 = some r) ∧ Aside0 (kq ≤ kj6) ∧ Drawn0 w wc)
      case first =>
       have H := HC9.out
       clear HC9
       by_cases c10 : (wrap64 ((a0.size : Int) - x3_6)) < 1
       ·rw [if_pos c10] at H
        have c10b0 : decide ((wrap64 ((a0.size : Int) - x3_6)) < 1) = true := decide_eq_true c10
        clear c10
        (first | rw [c10b0] | (simp only [i64_w, i32_w]; rw [c10b0]) | skip)
        have H' := am H
        clear H
        go_wp2
        go_meet
        case rel => exact ⟨_, (true), yS, H', ⟨by have := HJ2.out; have := HJ6.out; first | omega | exact Nat.le_refl _⟩, by repeat (first | exact Drawn0.refl _ | apply Drawn0.step)⟩
       ·rw [if_neg c10] at H
        have c10b0 : decide ((wrap64 ((a0.size : Int) - x3_6)) < 1) = false := decide_eq_false c10
        clear c10
        (first | rw [c10b0] | (simp only [i64_w, i32_w]; rw [c10b0]) | skip)
        by_cases c11 : (wrap64 ((a0.size : Int) - x3_6)) > 100
        ·rw [if_pos c11] at H
         have c11b0 : decide (100 < (wrap64 ((a0.size : Int) - x3_6))) = true := decide_eq_true c11
         clear c11
         have H' := am H
         clear H
         go_wp2
         go_meet
         case rel => exact ⟨_, (true), yS, H', ⟨by have := HJ2.out; have := HJ6.out; first | omega | exact Nat.le_refl _⟩, by repeat (first | exact Drawn0.refl _ | apply Drawn0.step)⟩
        ·rw [if_neg c11] at H
         have c11b0 : decide (100 < (wrap64 ((a0.size : Int) - x3_6))) = false := decide_eq_false c11
         clear c11
         by_cases c12 : 0 ≤ x3_6
         ·rw [if_pos c12] at H
          have c12b0 : decide (0 ≤ x3_6) = true := decide_eq_true c12
          clear c12
          by_cases c13 : x3_6 < (a0.size : Int)
          ·rw [if_pos c13] at H
           have c13b0 : decide (x3_6 < (a0.size : Int)) = true := decide_eq_true c13
           clear c13
           have H' := am H
           clear H
           have p14 : 0 ≤ (x3_6 : Int) := of_decide_eq_true yY
           have q14 : x3_6 < (a0.size : Int) := of_decide_eq_true yY
           have hx14 := bt_at a0 x3_6
           replace p14 := eq_true p14
           replace q14 := eq_true q14
           go_wp2
           go_meet
           case rel => exact ⟨_, (((bt a0 x3_6) == 48)), yS, H', ⟨by have := HJ2.out; have := HJ6.out; first | omega | exact Nat.le_refl _⟩, by repeat (first | exact Drawn0.refl _ | apply Drawn0.step)⟩
          ·rw [if_neg c13] at H
           exact absurd H (by simp)
         ·rw [if_neg c12] at H
          exact absurd H (by simp)
      case rest =>
       clear HC9
       try clear c1
       try clear p1
       try clear q1
       try clear hx1
       try clear c2
       try clear c2b0
       try clear c2b1
       try clear p2
       try clear c4
       try clear c4b0
       try clear c4b1
       try clear c5
       try clear c5b0
       try clear c5b1
       try clear c6
       try clear p6
       try clear q6
       try clear hx6
       try clear qi6
       try clear c8
       try clear c10
       try clear c10b0
       try clear c11
       try clear c11b0
       try clear c12
       try clear c12b0
       try clear c13
       try clear c13b0
       try clear p14
       try clear q14
       try clear hx14
       try clear p14
       try clear p2
       try clear p6
       try clear q14
       try clear q6
       obtain ⟨kq, x31_8, rfl, HA, HJ8, ⟨mc8, rfl⟩⟩ := hcut
       cases kq with
       | zero => exact absurd HA.out (by simp [reredosref01_May.j2])
       | succ kj8 =>
        have H := HA.out
        clear HA
        simp only [reredosref01_May.j2] at H
        by_cases c15 : x31_8 = true
        ·subst c15
         rw [if_pos rfl] at H
         obtain rfl := Option.some.inj H
         go_wp2
         go_ret
         exact ⟨yS, by repeat (first | exact Drawn0.refl _ | apply Drawn0.step)⟩
        ·replace c15 := Bool.eq_false_iff.mpr c15
         subst c15
         rw [if_neg (show ¬ (false = true) by decide)] at H
         have H' := am H
         clear H
         go_wp2
         go_loopg [4] kj8 (fun kq v4 w' => ∃ (x4_4 : Int), v4 = .int .i64 x4_4 ∧ Aside0 (reredosref01_May.l0 kq a0 x4_4 = some r) ∧ Aside0 (kq ≤ kj8) ∧ Drawn0 w w')
         case atStart => exact ⟨(x3_6), yS, H', ⟨Nat.le_refl _⟩, by repeat (first | exact Drawn0.refl _ | apply Drawn0.step)⟩
         case round =>
          clear H'
          try clear c1
          try clear p1
          try clear q1
          try clear hx1
          try clear c2
          try clear c2b0
          try clear c2b1
          try clear p2
          try clear c4
          try clear c4b0
          try clear c4b1
          try clear c5
          try clear c5b0
          try clear c5b1
          try clear c6
          try clear p6
          try clear q6
          try clear hx6
          try clear qi6
          try clear c8
          try clear c10
          try clear c10b0
          try clear c11
          try clear c11b0
          try clear c12
          try clear c12b0
          try clear c13
          try clear c13b0
          try clear p14
          try clear q14
          try clear hx14
          try clear c15
          try clear p1
          try clear p14
          try clear p2
          try clear p6
          try clear q1
          try clear q14
          try clear q6
          obtain ⟨x4_4, rfl, HA, HK4, ⟨m4, rfl⟩⟩ := hrel
          cases gk with
          | zero => exact absurd HA.out (by simp [reredosref01_May.l0])
          | succ k4 =>
           have H := HA.out
           clear HA
           simp only [reredosref01_May.l0] at H
           by_cases c16 : x4_4 < (a0.size : Int)
           ·rw [if_pos c16] at H
            have c16b0 : decide (x4_4 < (a0.size : Int)) = true := decide_eq_true c16
            clear c16
            by_cases c17 : 0 ≤ x4_4
            ·rw [if_pos c17] at H
             have c17b0 : decide (0 ≤ x4_4) = true := decide_eq_true c17
             clear c17
             by_cases c19 : (bt a0 x4_4) < 48
             ·rw [if_pos c19] at H
              have c19b0 : decide ((bt a0 x4_4) < 48) = true := decide_eq_true c19
              clear c19
              obtain rfl := Option.some.inj H
              have p18 : 0 ≤ (x4_4 : Int) := of_decide_eq_true yY
              have q18 : x4_4 < (a0.size : Int) := of_decide_eq_true yY
              have hx18 := bt_at a0 x4_4
              replace p18 := eq_true p18
              replace q18 := eq_true q18
              go_wp2
              go_ret
              exact ⟨yS, by repeat (first | exact Drawn0.refl _ | apply Drawn0.step)⟩
             ·rw [if_neg c19] at H
              have c19b0 : decide ((bt a0 x4_4) < 48) = false := decide_eq_false c19
              clear c19
              by_cases c21 : (bt a0 x4_4) > 57
              ·rw [if_pos c21] at H
               have c21b0 : decide (57 < (bt a0 x4_4)) = true := decide_eq_true c21
               clear c21
               obtain rfl := Option.some.inj H
               have p18 : 0 ≤ (x4_4 : Int) := of_decide_eq_true yY
               have q18 : x4_4 < (a0.size : Int) := of_decide_eq_true yY
               have hx18 := bt_at a0 x4_4
               replace p18 := eq_true p18
               replace q18 := eq_true q18
               have p20 : 0 ≤ (x4_4 : Int) := of_decide_eq_true yY
               have q20 : x4_4 < (a0.size : Int) := of_decide_eq_true yY
               have hx20 := bt_at a0 x4_4
               replace p20 := eq_true p20
               replace q20 := eq_true q20
               go_wp2
               go_ret
               exact ⟨yS, by repeat (first | exact Drawn0.refl _ | apply Drawn0.step)⟩
              ·rw [if_neg c21] at H
               have c21b0 : decide (57 < (bt a0 x4_4)) = false := decide_eq_false c21
               clear c21
               have H' := am H
               clear H
               have p18 : 0 ≤ (x4_4 : Int) := of_decide_eq_true yY
               have q18 : x4_4 < (a0.size : Int) := of_decide_eq_true yY
               have hx18 := bt_at a0 x4_4
               replace p18 := eq_true p18
               replace q18 := eq_true q18
               have p20 : 0 ≤ (x4_4 : Int) := of_decide_eq_true yY
               have q20 : x4_4 < (a0.size : Int) := of_decide_eq_true yY
               have hx20 := bt_at a0 x4_4
               replace p20 := eq_true p20
               replace q20 := eq_true q20
               go_wp2
               go_roundg k4
               case measure => have := HJ2.out; have := HJ6.out; have := HJ8.out; have := HK4.out; omega
               case rel => exact ⟨(wrap64 (x4_4 + 1)), yS, H', ⟨by have := HJ2.out; have := HJ6.out; have := HJ8.out; have := HK4.out; omega⟩, by repeat (first | exact Drawn0.refl _ | apply Drawn0.step)⟩
            ·rw [if_neg c17] at H
             exact absurd H (by simp)
           ·rw [if_neg c16] at H
            have c16b0 : decide (x4_4 < (a0.size : Int)) = false := decide_eq_false c16
            clear c16
            obtain rfl := Option.some.inj H
            go_wp2
            go_ret
            exact ⟨yS, by repeat (first | exact Drawn0.refl _ | apply Drawn0.step)⟩
end Go.Proofs.Ytdelccahgchadaa.P
end
section
namespace Go.Proofs.Ytdelccahgchadaa.P
open Go.RowKit Go.Proofs.YtdelccahgchadaaW.PrintWords Go.Proofs.YtdelccahgchadaaW.PrintLast Go.Proofs.YtdelccahgchadaaW.PrintMore
attribute [local go_sem] max2_int min2_int max_two min_two max_three min_three max_four min_four   
set_option linter.unusedVariables false
set_option linter.unusedSimpArgs false
def reredosref07_Number.j0 : Nat → ByteArray → ByteArray → Bool → Option (ByteArray × Bool)
 | 0, _, _, _ => none
 | k + 1, x0, x4, x12 => if x12 = true then (if 1 ≤ (x0.size : Int) then (if 1 + (x0.extract 1 x0.size).size ≤ 9223372036854775807 then (if x0.toList = ([] : List UInt8) then ((reredosref01_May.f k ((⟨#[45]⟩ : ByteArray) ++ (x0.extract 1 x0.size))).bind fun t352 => (if t352 = true then (some ((⟨#[45]⟩ : ByteArray) ++ (x0.extract 1 x0.size), true)) else (some ((⟨#[]⟩ : ByteArray), false)))) else (if 0 < (x0.size : Int) then (if (bt x0 0) = 45 then (some ((⟨#[]⟩ : ByteArray), false)) else ((reredosref01_May.f k ((⟨#[45]⟩ : ByteArray) ++ (x0.extract 1 x0.size))).bind fun t353 => (if t353 = true then (some ((⟨#[45]⟩ : ByteArray) ++ (x0.extract 1 x0.size), true)) else (some ((⟨#[]⟩ : ByteArray), false))))) else (none))) else (none)) else (none)) else (if x0.toList = ([] : List UInt8) then ((reredosref01_May.f k x4).bind fun t354 => (if t354 = true then (some (x4, true)) else (some ((⟨#[]⟩ : ByteArray), false)))) else (if 0 < (x0.size : Int) then (if (bt x0 0) = 45 then (some ((⟨#[]⟩ : ByteArray), false)) else ((reredosref01_May.f k x4).bind fun t355 => (if t355 = true then (some (x4, true)) else (some ((⟨#[]⟩ : ByteArray), false))))) else (none)))
def reredosref07_Number.f (k : Nat) (a0 : ByteArray) : Option (ByteArray × Bool) := if a0.toList = ([] : List UInt8) then (reredosref07_Number.j0 k a0 a0 false) else (if 0 < (a0.size : Int) then (reredosref07_Number.j0 k a0 a0 ((bt a0 0) == 95)) else (none))
theorem reredosref07_Number.mono_l : ∀ k, (∀ y0 y1 y2, LeO (reredosref07_Number.j0 k y0 y1 y2) (reredosref07_Number.j0 (k + 1) y0 y1 y2))
 | 0 => fun _ _ _ r h => by simp [reredosref07_Number.j0] at h
 | k + 1 => by
  have ih0 := reredosref07_Number.mono_l k
  ·intro y0 y1 y2
   unfold reredosref07_Number.j0
   repeat' first
   | (with_reducible exact ih0 _ _ _)
   | (with_reducible exact reredosref01_May.mono _ _)
   | (with_reducible exact LeO.refl _)
   | (with_reducible exact LeO.none _)
   | (with_reducible refine LeO.ite ?_ ?_)
   | (with_reducible refine LeO.bind ?_ (fun _ => ?_))
   | exact ih0 _ _ _
   | exact reredosref01_May.mono _ _
   | exact LeO.none _
   | refine LeO.ite ?_ ?_
   | refine LeO.bind ?_ (fun _ => ?_)
theorem reredosref07_Number.mono : ∀ a0 k, LeO (reredosref07_Number.f k a0) (reredosref07_Number.f (k + 1) a0) := by
 intro a0 k
 have ih0 := reredosref07_Number.mono_l k
 unfold reredosref07_Number.f
 repeat' first
   | (with_reducible exact ih0 _ _ _)
   | (with_reducible exact reredosref01_May.mono _ _)
   | (with_reducible exact LeO.refl _)
   | (with_reducible exact LeO.none _)
   | (with_reducible refine LeO.ite ?_ ?_)
   | (with_reducible refine LeO.bind ?_ (fun _ => ?_))
   | exact ih0 _ _ _
   | exact reredosref01_May.mono _ _
   | exact LeO.none _
   | refine LeO.ite ?_ ?_
   | refine LeO.bind ?_ (fun _ => ?_)
set_option maxHeartbeats 8000000 in
set_option maxRecDepth 100000 in
theorem reredosref07_Number.calls (k : Nat) (a0 : ByteArray) (r1 : ByteArray) (r2 : Bool) (w : World) (h : reredosref07_Number.f k a0 = some (r1, r2)) :
  Calls Try.prog 53 #[.string a0] w fun e w' => e = .returned (.tuple #[.string r1, .bool r2]) ∧ Drawn0 w w' := by
 have H : (if a0.toList = ([] : List UInt8) then (reredosref07_Number.j0 k a0 a0 false) else (if 0 < (a0.size : Int) then (reredosref07_Number.j0 k a0 a0 ((bt a0 0) == 95)) else (none))) = some (r1, r2) := h
 clear h
 have HC2 := am H
 clear H
 go_enter Try.func53, Try.ntmps53
 go_upto_region 2 with (fail)
 go_cut [12] (fun v12 wc => ∃ (kq : Nat) (x12_1 : Bool), v12 = .bool x12_1 ∧ Aside0 (reredosref07_Number.j0 kq a0 a0 x12_1 = some (r1, r2)) ∧ Aside0 (kq ≤ k) ∧ Drawn0 w wc)
 case first =>
  have H := HC2.out
  clear HC2
  by_cases c3 : a0.toList = ([] : List UInt8)
  ·rw [if_pos c3] at H
   have c3b0 := eT c3
   have c3b1 := nF c3
   clear c3
   (first | rw [c3b0] | (simp only [i64_w, i32_w]; rw [c3b0]) | skip)
   have H' := am H
   clear H
   go_wp2
   go_meet
   case rel => exact ⟨_, (false), yS, H', ⟨yO⟩, by repeat (first | exact Drawn0.refl _ | apply Drawn0.step)⟩
  ·rw [if_neg c3] at H
   have c3b0 := eF c3
   have c3b1 := nT c3
   (first | rw [c3b0] | (simp only [i64_w, i32_w]; rw [c3b0]) | skip)
   by_cases c4 : 0 < (a0.size : Int)
   ·rw [if_pos c4] at H
    have c4b0 : decide (0 < (a0.size : Int)) = true := decide_eq_true c4
    have c4b1 : decide (0 < a0.size) = true := decide_eq_true (by omega)
    clear c4
    have H' := am H
    clear H
    have p5 : 0 ≤ (0 : Int) := (by omega)
    have q5 : 0 < a0.size := (by have : (0 : Int) < (a0.size : Int) := of_decide_eq_true yY; omega)
    have hx5 : ∀ h : 0 < a0.size, ((a0[0]'h).toNat : Int) = bt a0 0 := bt_at a0 0
    clear p5
    have qi5 : (0 < (a0.size : Int)) = True := eq_true (of_decide_eq_true yY)
    replace q5 := eq_true q5
    go_wp2
    go_meet
    case rel => exact ⟨_, (((bt a0 0) == 95)), yS, H', ⟨yO⟩, by repeat (first | exact Drawn0.refl _ | apply Drawn0.step)⟩
   ·rw [if_neg c4] at H
    exact absurd H (by simp)
 case rest =>
  clear HC2
  try clear p2
  try clear c3
  try clear c3b0
  try clear c3b1
  try clear c4
  try clear c4b0
  try clear c4b1
  try clear c5
  try clear p5
  try clear q5
  try clear hx5
  try clear qi5
  try clear p5
  try clear q5
  obtain ⟨kq, x12_1, rfl, HA, HJ1, ⟨mc1, rfl⟩⟩ := hcut
  cases kq with
  | zero => exact absurd HA.out (by simp [reredosref07_Number.j0])
  | succ kj1 =>
   have H := HA.out
   clear HA
   simp only [reredosref07_Number.j0] at H
   by_cases c6 : x12_1 = true
   ·subst c6
    rw [if_pos rfl] at H
    by_cases c7 : 1 ≤ (a0.size : Int)
    ·rw [if_pos c7] at H
     have c7b0 := eq_true c7
     have c7b1 : decide (1 ≤ (a0.size : Int)) = true := decide_eq_true c7
     clear c7
     by_cases c8 : 1 + (a0.extract 1 a0.size).size ≤ 9223372036854775807
     ·rw [if_pos c8] at H
      have c8b0 := eq_true c8
      have c8b1 : decide (1 + (a0.extract 1 a0.size).size ≤ 9223372036854775807) = true := decide_eq_true c8
      try have c8b2 : (9223372036854775807 < 1 + (a0.extract 1 a0.size).size) = False := eq_false (Nat.not_lt.2 c8)
      try (have c8b3 := c8b2; simp only [ByteArray.size_extract, Nat.min_self] at c8b3)
      by_cases c9 : a0.toList = ([] : List UInt8)
      ·rw [if_pos c9] at H
       have c9b0 := eT c9
       have c9b1 := nF c9
       clear c9
       replace H := Option.bind_eq_some_iff.mp H
       obtain ⟨t352, A100, H⟩ := H
       try dsimp only at H
       have A10 := am A100
       clear A100
       by_cases c11 : t352 = true
       ·subst c11
        rw [if_pos rfl] at H
        simp only [Option.some.injEq, Prod.mk.injEq] at H
        obtain ⟨rfl, rfl⟩ := H
        go_wp2_with (go_at_call 61; (with_reducible refine (reredosref01_May.calls _ _ _ _ A10.out).mono ?_); rintro e w' ⟨rfl, ⟨nd, rfl⟩⟩)
        go_ret2
        exact ⟨yS, by repeat (first | exact Drawn0.refl _ | apply Drawn0.step)⟩
       ·replace c11 := Bool.eq_false_iff.mpr c11
        subst c11
        rw [if_neg (show ¬ (false = true) by decide)] at H
        simp only [Option.some.injEq, Prod.mk.injEq] at H
        obtain ⟨rfl, rfl⟩ := H
        go_wp2_with (go_at_call 61; (with_reducible refine (reredosref01_May.calls _ _ _ _ A10.out).mono ?_); rintro e w' ⟨rfl, ⟨nd, rfl⟩⟩)
        go_ret2
        exact ⟨yS, by repeat (first | exact Drawn0.refl _ | apply Drawn0.step)⟩
      ·rw [if_neg c9] at H
       have c9b0 := eF c9
       have c9b1 := nT c9
       by_cases c12 : 0 < (a0.size : Int)
       ·rw [if_pos c12] at H
        have c12b0 : decide (0 < (a0.size : Int)) = true := decide_eq_true c12
        have c12b1 : decide (0 < a0.size) = true := decide_eq_true (by omega)
        clear c12
        by_cases c14 : (bt a0 0) = 45
        ·rw [if_pos c14] at H
         have c14b0 := eT c14
         have c14b1 := nF c14
         clear c14
         simp only [Option.some.injEq, Prod.mk.injEq] at H
         obtain ⟨rfl, rfl⟩ := H
         have p13 : 0 ≤ (0 : Int) := (by omega)
         have q13 : 0 < a0.size := (by have : (0 : Int) < (a0.size : Int) := of_decide_eq_true yY; omega)
         have hx13 : ∀ h : 0 < a0.size, ((a0[0]'h).toNat : Int) = bt a0 0 := bt_at a0 0
         clear p13
         have qi13 : (0 < (a0.size : Int)) = True := eq_true (of_decide_eq_true yY)
         replace q13 := eq_true q13
         go_wp2
         go_ret2
         exact ⟨yS, by repeat (first | exact Drawn0.refl _ | apply Drawn0.step)⟩
        ·rw [if_neg c14] at H
         have c14b0 := eF c14
         have c14b1 := nT c14
         replace H := Option.bind_eq_some_iff.mp H
         obtain ⟨t353, A150, H⟩ := H
         try dsimp only at H
         have A15 := am A150
         clear A150
         by_cases c16 : t353 = true
         ·subst c16
          rw [if_pos rfl] at H
          simp only [Option.some.injEq, Prod.mk.injEq] at H
          obtain ⟨rfl, rfl⟩ := H
          have p13 : 0 ≤ (0 : Int) := (by omega)
          have q13 : 0 < a0.size := (by have : (0 : Int) < (a0.size : Int) := of_decide_eq_true yY; omega)
          have hx13 : ∀ h : 0 < a0.size, ((a0[0]'h).toNat : Int) = bt a0 0 := bt_at a0 0
          clear p13
          have qi13 : (0 < (a0.size : Int)) = True := eq_true (of_decide_eq_true yY)
          replace q13 := eq_true q13
          go_wp2_with (go_at_call 61; (with_reducible refine (reredosref01_May.calls _ _ _ _ A15.out).mono ?_); rintro e w' ⟨rfl, ⟨nd, rfl⟩⟩)
          go_ret2
          exact ⟨yS, by repeat (first | exact Drawn0.refl _ | apply Drawn0.step)⟩
         ·replace c16 := Bool.eq_false_iff.mpr c16
          subst c16
          rw [if_neg (show ¬ (false = true) by decide)] at H
          simp only [Option.some.injEq, Prod.mk.injEq] at H
          obtain ⟨rfl, rfl⟩ := H
          have p13 : 0 ≤ (0 : Int) := (by omega)
          have q13 : 0 < a0.size := (by have : (0 : Int) < (a0.size : Int) := of_decide_eq_true yY; omega)
          have hx13 : ∀ h : 0 < a0.size, ((a0[0]'h).toNat : Int) = bt a0 0 := bt_at a0 0
          clear p13
          have qi13 : (0 < (a0.size : Int)) = True := eq_true (of_decide_eq_true yY)
          replace q13 := eq_true q13
          go_wp2_with (go_at_call 61; (with_reducible refine (reredosref01_May.calls _ _ _ _ A15.out).mono ?_); rintro e w' ⟨rfl, ⟨nd, rfl⟩⟩)
          go_ret2
          exact ⟨yS, by repeat (first | exact Drawn0.refl _ | apply Drawn0.step)⟩
       ·rw [if_neg c12] at H
        exact absurd H (by simp)
     ·rw [if_neg c8] at H
      exact absurd H (by simp)
    ·rw [if_neg c7] at H
     exact absurd H (by simp)
   ·replace c6 := Bool.eq_false_iff.mpr c6
    subst c6
    rw [if_neg (show ¬ (false = true) by decide)] at H
    by_cases c17 : a0.toList = ([] : List UInt8)
    ·rw [if_pos c17] at H
     have c17b0 := eT c17
     have c17b1 := nF c17
     clear c17
     replace H := Option.bind_eq_some_iff.mp H
     obtain ⟨t354, A180, H⟩ := H
     try dsimp only at H
     have A18 := am A180
     clear A180
     by_cases c19 : t354 = true
     ·subst c19
      rw [if_pos rfl] at H
      simp only [Option.some.injEq, Prod.mk.injEq] at H
      obtain ⟨rfl, rfl⟩ := H
      go_wp2_with (go_at_call 61; (with_reducible refine (reredosref01_May.calls _ _ _ _ A18.out).mono ?_); rintro e w' ⟨rfl, ⟨nd, rfl⟩⟩)
      go_ret2
      exact ⟨yS, by repeat (first | exact Drawn0.refl _ | apply Drawn0.step)⟩
     ·replace c19 := Bool.eq_false_iff.mpr c19
      subst c19
      rw [if_neg (show ¬ (false = true) by decide)] at H
      simp only [Option.some.injEq, Prod.mk.injEq] at H
      obtain ⟨rfl, rfl⟩ := H
      go_wp2_with (go_at_call 61; (with_reducible refine (reredosref01_May.calls _ _ _ _ A18.out).mono ?_); rintro e w' ⟨rfl, ⟨nd, rfl⟩⟩)
      go_ret2
      exact ⟨yS, by repeat (first | exact Drawn0.refl _ | apply Drawn0.step)⟩
    ·rw [if_neg c17] at H
     have c17b0 := eF c17
     have c17b1 := nT c17
     by_cases c20 : 0 < (a0.size : Int)
     ·rw [if_pos c20] at H
      have c20b0 : decide (0 < (a0.size : Int)) = true := decide_eq_true c20
      have c20b1 : decide (0 < a0.size) = true := decide_eq_true (by omega)
      clear c20
      by_cases c22 : (bt a0 0) = 45
      ·rw [if_pos c22] at H
       have c22b0 := eT c22
       have c22b1 := nF c22
       clear c22
       simp only [Option.some.injEq, Prod.mk.injEq] at H
       obtain ⟨rfl, rfl⟩ := H
       have p21 : 0 ≤ (0 : Int) := (by omega)
       have q21 : 0 < a0.size := (by have : (0 : Int) < (a0.size : Int) := of_decide_eq_true yY; omega)
       have hx21 : ∀ h : 0 < a0.size, ((a0[0]'h).toNat : Int) = bt a0 0 := bt_at a0 0
       clear p21
       have qi21 : (0 < (a0.size : Int)) = True := eq_true (of_decide_eq_true yY)
       replace q21 := eq_true q21
       go_wp2
       go_ret2
       exact ⟨yS, by repeat (first | exact Drawn0.refl _ | apply Drawn0.step)⟩
      ·rw [if_neg c22] at H
       have c22b0 := eF c22
       have c22b1 := nT c22
       replace H := Option.bind_eq_some_iff.mp H
       obtain ⟨t355, A230, H⟩ := H
       try dsimp only at H
       have A23 := am A230
       clear A230
       by_cases c24 : t355 = true
       ·subst c24
        rw [if_pos rfl] at H
        simp only [Option.some.injEq, Prod.mk.injEq] at H
        obtain ⟨rfl, rfl⟩ := H
        have p21 : 0 ≤ (0 : Int) := (by omega)
        have q21 : 0 < a0.size := (by have : (0 : Int) < (a0.size : Int) := of_decide_eq_true yY; omega)
        have hx21 : ∀ h : 0 < a0.size, ((a0[0]'h).toNat : Int) = bt a0 0 := bt_at a0 0
        clear p21
        have qi21 : (0 < (a0.size : Int)) = True := eq_true (of_decide_eq_true yY)
        replace q21 := eq_true q21
        go_wp2_with (go_at_call 61; (with_reducible refine (reredosref01_May.calls _ _ _ _ A23.out).mono ?_); rintro e w' ⟨rfl, ⟨nd, rfl⟩⟩)
        go_ret2
        exact ⟨yS, by repeat (first | exact Drawn0.refl _ | apply Drawn0.step)⟩
       ·replace c24 := Bool.eq_false_iff.mpr c24
        subst c24
        rw [if_neg (show ¬ (false = true) by decide)] at H
        simp only [Option.some.injEq, Prod.mk.injEq] at H
        obtain ⟨rfl, rfl⟩ := H
        have p21 : 0 ≤ (0 : Int) := (by omega)
        have q21 : 0 < a0.size := (by have : (0 : Int) < (a0.size : Int) := of_decide_eq_true yY; omega)
        have hx21 : ∀ h : 0 < a0.size, ((a0[0]'h).toNat : Int) = bt a0 0 := bt_at a0 0
        clear p21
        have qi21 : (0 < (a0.size : Int)) = True := eq_true (of_decide_eq_true yY)
        replace q21 := eq_true q21
        go_wp2_with (go_at_call 61; (with_reducible refine (reredosref01_May.calls _ _ _ _ A23.out).mono ?_); rintro e w' ⟨rfl, ⟨nd, rfl⟩⟩)
        go_ret2
        exact ⟨yS, by repeat (first | exact Drawn0.refl _ | apply Drawn0.step)⟩
     ·rw [if_neg c20] at H
      exact absurd H (by simp)
end Go.Proofs.Ytdelccahgchadaa.P
end
section
namespace Go.Proofs.Ytdelccahgchadaa.P
open Go.RowKit Go.Proofs.YtdelccahgchadaaW.PrintWords Go.Proofs.YtdelccahgchadaaW.PrintLast Go.Proofs.YtdelccahgchadaaW.PrintMore
attribute [local go_sem] max2_int min2_int max_two min_two max_three min_three max_four min_four   
set_option linter.unusedVariables false
set_option linter.unusedSimpArgs false
end Go.Proofs.Ytdelccahgchadaa.P
end
section
namespace Go.Proofs.Ytdelccahgchadaa.P
open Go.RowKit Go.Proofs.YtdelccahgchadaaW.PrintWords Go.Proofs.YtdelccahgchadaaW.PrintLast Go.Proofs.YtdelccahgchadaaW.PrintMore
attribute [local go_sem] max2_int min2_int max_two min_two max_three min_three max_four min_four   
set_option linter.unusedVariables false
set_option linter.unusedSimpArgs false
end Go.Proofs.Ytdelccahgchadaa.P
end
section
namespace Go.Proofs.Ytdelccahgchadaa.P
open Go.RowKit Go.Proofs.YtdelccahgchadaaW.PrintWords Go.Proofs.YtdelccahgchadaaW.PrintLast Go.Proofs.YtdelccahgchadaaW.PrintMore
attribute [local go_sem] max2_int min2_int max_two min_two max_three min_three max_four min_four   
set_option linter.unusedVariables false
set_option linter.unusedSimpArgs false
def reredosref07_has.l0 : Nat → ByteArray → Int → Int → Option (Bool)
 | 0, _, _, _ => none
 | k + 1, x0, x1, x5 => if x5 < (x0.size : Int) then (if 0 ≤ x5 then (if (bt x0 x5) = x1 then (some true) else (reredosref07_has.l0 k x0 x1 (wrap64 (x5 + 1)))) else (none)) else (some false)
def reredosref07_has.f (k : Nat) (a0 : ByteArray) (a1 : Int) : Option (Bool) := reredosref07_has.l0 k a0 a1 0
theorem reredosref07_has.mono_l : ∀ k, (∀ y0 y1 y2, LeO (reredosref07_has.l0 k y0 y1 y2) (reredosref07_has.l0 (k + 1) y0 y1 y2))
 | 0 => fun _ _ _ r h => by simp [reredosref07_has.l0] at h
 | k + 1 => by
  have ih0 := reredosref07_has.mono_l k
  ·intro y0 y1 y2
   unfold reredosref07_has.l0
   repeat' first
   | (with_reducible exact ih0 _ _ _)
   | (with_reducible exact LeO.refl _)
   | (with_reducible exact LeO.none _)
   | (with_reducible refine LeO.ite ?_ ?_)
   | (with_reducible refine LeO.bind ?_ (fun _ => ?_))
   | exact ih0 _ _ _
   | exact LeO.none _
   | refine LeO.ite ?_ ?_
   | refine LeO.bind ?_ (fun _ => ?_)
theorem reredosref07_has.mono : ∀ a0 a1 k, LeO (reredosref07_has.f k a0 a1) (reredosref07_has.f (k + 1) a0 a1) := by
 intro a0 a1 k
 have ih0 := reredosref07_has.mono_l k
 unfold reredosref07_has.f
 repeat' first
   | (with_reducible exact ih0 _ _ _)
   | (with_reducible exact LeO.refl _)
   | (with_reducible exact LeO.none _)
   | (with_reducible refine LeO.ite ?_ ?_)
   | (with_reducible refine LeO.bind ?_ (fun _ => ?_))
   | exact ih0 _ _ _
   | exact LeO.none _
   | refine LeO.ite ?_ ?_
   | refine LeO.bind ?_ (fun _ => ?_)
set_option maxHeartbeats 8000000 in
set_option maxRecDepth 100000 in
theorem reredosref07_has.calls (k : Nat) (a0 : ByteArray) (a1 : Int) (r : Bool) (w : World) (h : reredosref07_has.f k a0 a1 = some r) :
  Calls Try.prog 69 #[.string a0, .int .u8 a1] w fun e w' => e = .returned (.bool r) ∧ Drawn0 w w' := by
 have H : (reredosref07_has.l0 k a0 a1 0) = some r := h
 clear h
 have H' := am H
 clear H
 go_enter Try.func69, Try.ntmps69
 go_wp2
 go_loopg [5] k (fun kq v5 w' => ∃ (x5_1 : Int), v5 = .int .i64 x5_1 ∧ Aside0 (reredosref07_has.l0 kq a0 a1 x5_1 = some r) ∧ Aside0 (kq ≤ k) ∧ Drawn0 w w')
 case atStart => exact ⟨(0), yS, H', ⟨Nat.le_refl _⟩, by repeat (first | exact Drawn0.refl _ | apply Drawn0.step)⟩
 case round =>
  clear H'
  try clear p2
  obtain ⟨x5_1, rfl, HA, HK1, ⟨m1, rfl⟩⟩ := hrel
  cases gk with
  | zero => exact absurd HA.out (by simp [reredosref07_has.l0])
  | succ k1 =>
   have H := HA.out
   clear HA
   simp only [reredosref07_has.l0] at H
   by_cases c3 : x5_1 < (a0.size : Int)
   ·rw [if_pos c3] at H
    have c3b0 : decide (x5_1 < (a0.size : Int)) = true := decide_eq_true c3
    clear c3
    by_cases c4 : 0 ≤ x5_1
    ·rw [if_pos c4] at H
     have c4b0 : decide (0 ≤ x5_1) = true := decide_eq_true c4
     clear c4
     by_cases c6 : (bt a0 x5_1) = a1
     ·rw [if_pos c6] at H
      have c6b0 := eT c6
      have c6b1 := nF c6
      clear c6
      obtain rfl := Option.some.inj H
      have p5 : 0 ≤ (x5_1 : Int) := of_decide_eq_true yY
      have q5 : x5_1 < (a0.size : Int) := of_decide_eq_true yY
      have hx5 := bt_at a0 x5_1
      replace p5 := eq_true p5
      replace q5 := eq_true q5
      go_wp2
      go_ret
      exact ⟨yS, by repeat (first | exact Drawn0.refl _ | apply Drawn0.step)⟩
     ·rw [if_neg c6] at H
      have c6b0 := eF c6
      have c6b1 := nT c6
      have H' := am H
      clear H
      have p5 : 0 ≤ (x5_1 : Int) := of_decide_eq_true yY
      have q5 : x5_1 < (a0.size : Int) := of_decide_eq_true yY
      have hx5 := bt_at a0 x5_1
      replace p5 := eq_true p5
      replace q5 := eq_true q5
      go_wp2
      go_roundg k1
      case measure => have := HK1.out; omega
      case rel => exact ⟨(wrap64 (x5_1 + 1)), yS, H', ⟨by have := HK1.out; omega⟩, by repeat (first | exact Drawn0.refl _ | apply Drawn0.step)⟩
    ·rw [if_neg c4] at H
     exact absurd H (by simp)
   ·rw [if_neg c3] at H
    have c3b0 : decide (x5_1 < (a0.size : Int)) = false := decide_eq_false c3
    clear c3
    obtain rfl := Option.some.inj H
    go_wp2
    go_ret
    exact ⟨yS, by repeat (first | exact Drawn0.refl _ | apply Drawn0.step)⟩
end Go.Proofs.Ytdelccahgchadaa.P
end
section
namespace Go.Proofs.Ytdelccahgchadaa.P
open Go.RowKit Go.Proofs.YtdelccahgchadaaW.PrintWords Go.Proofs.YtdelccahgchadaaW.PrintLast Go.Proofs.YtdelccahgchadaaW.PrintMore
attribute [local go_sem] max2_int min2_int max_two min_two max_three min_three max_four min_four   
set_option linter.unusedVariables false
set_option linter.unusedSimpArgs false
def reredosref07_all.l0 : Nat → ByteArray → ByteArray → Int → Option (Bool)
 | 0, _, _, _ => none
 | k + 1, x0, x2, x7 => if x7 < (x0.size : Int) then (if 0 ≤ x7 then ((reredosref07_has.f k x2 (bt x0 x7)).bind fun t681 => (if t681 = true then (reredosref07_all.l0 k x0 x2 (wrap64 (x7 + 1))) else (some false))) else (none)) else (some true)
def reredosref07_all.f (k : Nat) (a0 : ByteArray) (a1 : Int) (a2 : ByteArray) : Option (Bool) := reredosref07_all.l0 k a0 a2 a1
theorem reredosref07_all.mono_l : ∀ k, (∀ y0 y1 y2, LeO (reredosref07_all.l0 k y0 y1 y2) (reredosref07_all.l0 (k + 1) y0 y1 y2))
 | 0 => fun _ _ _ r h => by simp [reredosref07_all.l0] at h
 | k + 1 => by
  have ih0 := reredosref07_all.mono_l k
  ·intro y0 y1 y2
   unfold reredosref07_all.l0
   repeat' first
   | (with_reducible exact ih0 _ _ _)
   | (with_reducible exact reredosref07_has.mono _ _ _)
   | (with_reducible exact LeO.refl _)
   | (with_reducible exact LeO.none _)
   | (with_reducible refine LeO.ite ?_ ?_)
   | (with_reducible refine LeO.bind ?_ (fun _ => ?_))
   | exact ih0 _ _ _
   | exact reredosref07_has.mono _ _ _
   | exact LeO.none _
   | refine LeO.ite ?_ ?_
   | refine LeO.bind ?_ (fun _ => ?_)
theorem reredosref07_all.mono : ∀ a0 a1 a2 k, LeO (reredosref07_all.f k a0 a1 a2) (reredosref07_all.f (k + 1) a0 a1 a2) := by
 intro a0 a1 a2 k
 have ih0 := reredosref07_all.mono_l k
 unfold reredosref07_all.f
 repeat' first
   | (with_reducible exact ih0 _ _ _)
   | (with_reducible exact reredosref07_has.mono _ _ _)
   | (with_reducible exact LeO.refl _)
   | (with_reducible exact LeO.none _)
   | (with_reducible refine LeO.ite ?_ ?_)
   | (with_reducible refine LeO.bind ?_ (fun _ => ?_))
   | exact ih0 _ _ _
   | exact reredosref07_has.mono _ _ _
   | exact LeO.none _
   | refine LeO.ite ?_ ?_
   | refine LeO.bind ?_ (fun _ => ?_)
set_option maxHeartbeats 8000000 in
set_option maxRecDepth 100000 in
theorem reredosref07_all.calls (k : Nat) (a0 : ByteArray) (a1 : Int) (a2 : ByteArray) (r : Bool) (w : World) (h : reredosref07_all.f k a0 a1 a2 = some r) :
  Calls Try.prog 70 #[.string a0, .int .i64 a1, .string a2] w fun e w' => e = .returned (.bool r) ∧ Drawn0 w w' := by
 have H : (reredosref07_all.l0 k a0 a2 a1) = some r := h
 clear h
 have H' := am H
 clear H
 go_enter Try.func70, Try.ntmps70
 go_wp2
 go_loopg [7] k (fun kq v7 w' => ∃ (x7_1 : Int), v7 = .int .i64 x7_1 ∧ Aside0 (reredosref07_all.l0 kq a0 a2 x7_1 = some r) ∧ Aside0 (kq ≤ k) ∧ Drawn0 w w')
 case atStart => exact ⟨(a1), yS, H', ⟨Nat.le_refl _⟩, by repeat (first | exact Drawn0.refl _ | apply Drawn0.step)⟩
 case round =>
  clear H'
  try clear p2
  obtain ⟨x7_1, rfl, HA, HK1, ⟨m1, rfl⟩⟩ := hrel
  cases gk with
  | zero => exact absurd HA.out (by simp [reredosref07_all.l0])
  | succ k1 =>
   have H := HA.out
   clear HA
   simp only [reredosref07_all.l0] at H
   by_cases c4 : x7_1 < (a0.size : Int)
   ·rw [if_pos c4] at H
    have c4b0 : decide (x7_1 < (a0.size : Int)) = true := decide_eq_true c4
    clear c4
    by_cases c5 : 0 ≤ x7_1
    ·rw [if_pos c5] at H
     have c5b0 : decide (0 ≤ x7_1) = true := decide_eq_true c5
     clear c5
     replace H := Option.bind_eq_some_iff.mp H
     obtain ⟨t681, A70, H⟩ := H
     try dsimp only at H
     have A7 := am A70
     clear A70
     by_cases c8 : t681 = true
     ·subst c8
      rw [if_pos rfl] at H
      have H' := am H
      clear H
      have p6 : 0 ≤ (x7_1 : Int) := of_decide_eq_true yY
      have q6 : x7_1 < (a0.size : Int) := of_decide_eq_true yY
      have hx6 := bt_at a0 x7_1
      replace p6 := eq_true p6
      replace q6 := eq_true q6
      go_wp2_with ((with_reducible refine gC 69 rfl ?_); refine gL (some 19) Try.func69 #[.string a2, .int .u8 (bt a0 x7_1)] ?_; (with_reducible refine (reredosref07_has.calls _ _ _ _ _ A7.out).mono ?_); rintro e w' ⟨rfl, ⟨nd, rfl⟩⟩; refine ⟨_, rfl, ?_⟩)
      go_roundg k1
      case measure => have := HK1.out; omega
      case rel => exact ⟨(wrap64 (x7_1 + 1)), yS, H', ⟨by have := HK1.out; omega⟩, by repeat (first | exact Drawn0.refl _ | apply Drawn0.step)⟩
     ·replace c8 := Bool.eq_false_iff.mpr c8
      subst c8
      rw [if_neg (show ¬ (false = true) by decide)] at H
      obtain rfl := Option.some.inj H
      have p6 : 0 ≤ (x7_1 : Int) := of_decide_eq_true yY
      have q6 : x7_1 < (a0.size : Int) := of_decide_eq_true yY
      have hx6 := bt_at a0 x7_1
      replace p6 := eq_true p6
      replace q6 := eq_true q6
      go_wp2_with ((with_reducible refine gC 69 rfl ?_); refine gL (some 19) Try.func69 #[.string a2, .int .u8 (bt a0 x7_1)] ?_; (with_reducible refine (reredosref07_has.calls _ _ _ _ _ A7.out).mono ?_); rintro e w' ⟨rfl, ⟨nd, rfl⟩⟩; refine ⟨_, rfl, ?_⟩)
      go_ret
      exact ⟨yS, by repeat (first | exact Drawn0.refl _ | apply Drawn0.step)⟩
    ·rw [if_neg c5] at H
     exact absurd H (by simp)
   ·rw [if_neg c4] at H
    have c4b0 : decide (x7_1 < (a0.size : Int)) = false := decide_eq_false c4
    clear c4
    obtain rfl := Option.some.inj H
    go_wp2
    go_ret
    exact ⟨yS, by repeat (first | exact Drawn0.refl _ | apply Drawn0.step)⟩
end Go.Proofs.Ytdelccahgchadaa.P
end
section
namespace Go.Proofs.Ytdelccahgchadaa.P
open Go.RowKit Go.Proofs.YtdelccahgchadaaW.PrintWords Go.Proofs.YtdelccahgchadaaW.PrintLast Go.Proofs.YtdelccahgchadaaW.PrintMore
attribute [local go_sem] max2_int min2_int max_two min_two max_three min_three max_four min_four   
set_option linter.unusedVariables false
set_option linter.unusedSimpArgs false
mutual
def reredosref07_kind.j0 : Nat → ByteArray → Bool → Option (Int)
 | 0, _, _ => none
 | k + 1, x0, x11 => if x11 = true then (some 2) else (if 0 < (x0.size : Int) then ((reredosref07_has.f k (⟨#[65, 66, 67, 68, 69, 70, 71, 72, 73, 74, 75, 76, 77, 78, 79, 80, 81, 82, 83, 84, 85, 86, 87, 88, 89, 90]⟩ : ByteArray) (bt x0 0)).bind fun t684 => (if t684 = true then ((reredosref07_all.f k x0 1 (⟨#[65, 66, 67, 68, 69, 70, 71, 72, 73, 74, 75, 76, 77, 78, 79, 80, 81, 82, 83, 84, 85, 86, 87, 88, 89, 90, 97, 98, 99, 100, 101, 102, 103, 104, 105, 106, 107, 108, 109, 110, 111, 112, 113, 114, 115, 116, 117, 118, 119, 120, 121, 122, 48, 49, 50, 51, 52, 53, 54, 55, 56, 57]⟩ : ByteArray)).bind fun t685 => (reredosref07_kind.j1 k x0 t685)) else (reredosref07_kind.j1 k x0 false))) else (none))
def reredosref07_kind.j1 : Nat → ByteArray → Bool → Option (Int)
 | 0, _, _ => none
 | k + 1, x0, x18 => if x18 = true then (some 3) else (if (x0.size : Int) = 1 then (if 0 < (x0.size : Int) then ((reredosref07_has.f k (⟨#[43, 45, 42, 37, 33, 38, 124, 60, 62, 61, 126, 44, 35, 94, 36, 63, 64]⟩ : ByteArray) (bt x0 0)).bind fun t686 => (reredosref07_kind.j2 k x0 t686)) else (none)) else (reredosref07_kind.j2 k x0 false))
def reredosref07_kind.j2 : Nat → ByteArray → Bool → Option (Int)
 | 0, _, _ => none
 | k + 1, x0, x26 => if x26 = true then (some 4) else (if (x0.size : Int) = 1 then (if 0 < (x0.size : Int) then ((reredosref07_has.f k (⟨#[39, 47, 92, 46, 96]⟩ : ByteArray) (bt x0 0)).bind fun t687 => (reredosref07_kind.j3 k x0 t687)) else (none)) else (reredosref07_kind.j3 k x0 false))
def reredosref07_kind.j3 : Nat → ByteArray → Bool → Option (Int)
 | 0, _, _ => none
 | k + 1, x0, x34 => if x34 = true then (some 5) else (if (x0.size : Int) = 1 then (if 0 < (x0.size : Int) then ((reredosref07_has.f k (⟨#[40, 41, 91, 93, 123, 125, 58]⟩ : ByteArray) (bt x0 0)).bind fun t688 => (reredosref07_kind.j4 k x0 t688)) else (none)) else (reredosref07_kind.j4 k x0 false))
def reredosref07_kind.j4 : Nat → ByteArray → Bool → Option (Int)
 | 0, _, _ => none
 | k + 1, x0, x42 => if x42 = true then (some 6) else (if 0 < (x0.size : Int) then (if (bt x0 0) = 95 then ((reredosref07_all.f k x0 1 (⟨#[48, 49, 50, 51, 52, 53, 54, 55, 56, 57]⟩ : ByteArray)).bind fun t689 => (if t689 = true then (some 1) else (some 0))) else ((reredosref07_has.f k (⟨#[48, 49, 50, 51, 52, 53, 54, 55, 56, 57]⟩ : ByteArray) (bt x0 0)).bind fun t690 => (if t690 = true then ((reredosref07_all.f k x0 1 (⟨#[48, 49, 50, 51, 52, 53, 54, 55, 56, 57]⟩ : ByteArray)).bind fun t691 => (if t691 = true then (some 1) else (some 0))) else (some 0)))) else (none))
end
def reredosref07_kind.f (k : Nat) (a0 : ByteArray) : Option (Int) := if a0.toList = ([] : List UInt8) then (some 0) else (if 0 < (a0.size : Int) then ((reredosref07_has.f k (⟨#[97, 98, 99, 100, 101, 102, 103, 104, 105, 106, 107, 108, 109, 110, 111, 112, 113, 114, 115, 116, 117, 118, 119, 120, 121, 122]⟩ : ByteArray) (bt a0 0)).bind fun t682 => (if t682 = true then ((reredosref07_all.f k a0 1 (⟨#[97, 98, 99, 100, 101, 102, 103, 104, 105, 106, 107, 108, 109, 110, 111, 112, 113, 114, 115, 116, 117, 118, 119, 120, 121, 122, 48, 49, 50, 51, 52, 53, 54, 55, 56, 57]⟩ : ByteArray)).bind fun t683 => (reredosref07_kind.j0 k a0 t683)) else (reredosref07_kind.j0 k a0 false))) else (none))
theorem reredosref07_kind.mono_l : ∀ k, (∀ y0 y1, LeO (reredosref07_kind.j0 k y0 y1) (reredosref07_kind.j0 (k + 1) y0 y1)) ∧ (∀ y0 y1, LeO (reredosref07_kind.j1 k y0 y1) (reredosref07_kind.j1 (k + 1) y0 y1)) ∧ (∀ y0 y1, LeO (reredosref07_kind.j2 k y0 y1) (reredosref07_kind.j2 (k + 1) y0 y1)) ∧ (∀ y0 y1, LeO (reredosref07_kind.j3 k y0 y1) (reredosref07_kind.j3 (k + 1) y0 y1)) ∧ (∀ y0 y1, LeO (reredosref07_kind.j4 k y0 y1) (reredosref07_kind.j4 (k + 1) y0 y1))
 | 0 => ⟨fun _ _ r h => by simp [reredosref07_kind.j0] at h, fun _ _ r h => by simp [reredosref07_kind.j1] at h, fun _ _ r h => by simp [reredosref07_kind.j2] at h, fun _ _ r h => by simp [reredosref07_kind.j3] at h, fun _ _ r h => by simp [reredosref07_kind.j4] at h⟩
 | k + 1 => by
  obtain ⟨ih0, ih1, ih2, ih3, ih4⟩ := reredosref07_kind.mono_l k
  refine ⟨?_, ?_, ?_, ?_, ?_⟩
  ·intro y0 y1
   unfold reredosref07_kind.j0
   repeat' first
   | (with_reducible exact ih0 _ _)
   | (with_reducible exact ih1 _ _)
   | (with_reducible exact ih2 _ _)
   | (with_reducible exact ih3 _ _)
   | (with_reducible exact ih4 _ _)
   | (with_reducible exact reredosref07_all.mono _ _ _ _)
   | (with_reducible exact reredosref07_has.mono _ _ _)
   | (with_reducible exact LeO.refl _)
   | (with_reducible exact LeO.none _)
   | (with_reducible refine LeO.ite ?_ ?_)
   | (with_reducible refine LeO.bind ?_ (fun _ => ?_))
   | exact ih0 _ _
   | exact ih1 _ _
   | exact ih2 _ _
   | exact ih3 _ _
   | exact ih4 _ _
   | exact reredosref07_all.mono _ _ _ _
   | exact reredosref07_has.mono _ _ _
   | exact LeO.none _
   | refine LeO.ite ?_ ?_
   | refine LeO.bind ?_ (fun _ => ?_)
  ·intro y0 y1
   unfold reredosref07_kind.j1
   repeat' first
   | (with_reducible exact ih0 _ _)
   | (with_reducible exact ih1 _ _)
   | (with_reducible exact ih2 _ _)
   | (with_reducible exact ih3 _ _)
   | (with_reducible exact ih4 _ _)
   | (with_reducible exact reredosref07_all.mono _ _ _ _)
   | (with_reducible exact reredosref07_has.mono _ _ _)
   | (with_reducible exact LeO.refl _)
   | (with_reducible exact LeO.none _)
   | (with_reducible refine LeO.ite ?_ ?_)
   | (with_reducible refine LeO.bind ?_ (fun _ => ?_))
   | exact ih0 _ _
   | exact ih1 _ _
   | exact ih2 _ _
   | exact ih3 _ _
   | exact ih4 _ _
   | exact reredosref07_all.mono _ _ _ _
   | exact reredosref07_has.mono _ _ _
   | exact LeO.none _
   | refine LeO.ite ?_ ?_
   | refine LeO.bind ?_ (fun _ => ?_)
  ·intro y0 y1
   unfold reredosref07_kind.j2
   repeat' first
   | (with_reducible exact ih0 _ _)
   | (with_reducible exact ih1 _ _)
   | (with_reducible exact ih2 _ _)
   | (with_reducible exact ih3 _ _)
   | (with_reducible exact ih4 _ _)
   | (with_reducible exact reredosref07_all.mono _ _ _ _)
   | (with_reducible exact reredosref07_has.mono _ _ _)
   | (with_reducible exact LeO.refl _)
   | (with_reducible exact LeO.none _)
   | (with_reducible refine LeO.ite ?_ ?_)
   | (with_reducible refine LeO.bind ?_ (fun _ => ?_))
   | exact ih0 _ _
   | exact ih1 _ _
   | exact ih2 _ _
   | exact ih3 _ _
   | exact ih4 _ _
   | exact reredosref07_all.mono _ _ _ _
   | exact reredosref07_has.mono _ _ _
   | exact LeO.none _
   | refine LeO.ite ?_ ?_
   | refine LeO.bind ?_ (fun _ => ?_)
  ·intro y0 y1
   unfold reredosref07_kind.j3
   repeat' first
   | (with_reducible exact ih0 _ _)
   | (with_reducible exact ih1 _ _)
   | (with_reducible exact ih2 _ _)
   | (with_reducible exact ih3 _ _)
   | (with_reducible exact ih4 _ _)
   | (with_reducible exact reredosref07_all.mono _ _ _ _)
   | (with_reducible exact reredosref07_has.mono _ _ _)
   | (with_reducible exact LeO.refl _)
   | (with_reducible exact LeO.none _)
   | (with_reducible refine LeO.ite ?_ ?_)
   | (with_reducible refine LeO.bind ?_ (fun _ => ?_))
   | exact ih0 _ _
   | exact ih1 _ _
   | exact ih2 _ _
   | exact ih3 _ _
   | exact ih4 _ _
   | exact reredosref07_all.mono _ _ _ _
   | exact reredosref07_has.mono _ _ _
   | exact LeO.none _
   | refine LeO.ite ?_ ?_
   | refine LeO.bind ?_ (fun _ => ?_)
  ·intro y0 y1
   unfold reredosref07_kind.j4
   repeat' first
   | (with_reducible exact ih0 _ _)
   | (with_reducible exact ih1 _ _)
   | (with_reducible exact ih2 _ _)
   | (with_reducible exact ih3 _ _)
   | (with_reducible exact ih4 _ _)
   | (with_reducible exact reredosref07_all.mono _ _ _ _)
   | (with_reducible exact reredosref07_has.mono _ _ _)
   | (with_reducible exact LeO.refl _)
   | (with_reducible exact LeO.none _)
   | (with_reducible refine LeO.ite ?_ ?_)
   | (with_reducible refine LeO.bind ?_ (fun _ => ?_))
   | exact ih0 _ _
   | exact ih1 _ _
   | exact ih2 _ _
   | exact ih3 _ _
   | exact ih4 _ _
   | exact reredosref07_all.mono _ _ _ _
   | exact reredosref07_has.mono _ _ _
   | exact LeO.none _
   | refine LeO.ite ?_ ?_
   | refine LeO.bind ?_ (fun _ => ?_)
theorem reredosref07_kind.mono : ∀ a0 k, LeO (reredosref07_kind.f k a0) (reredosref07_kind.f (k + 1) a0) := by
 intro a0 k
 obtain ⟨ih0, ih1, ih2, ih3, ih4⟩ := reredosref07_kind.mono_l k
 unfold reredosref07_kind.f
 repeat' first
   | (with_reducible exact ih0 _ _)
   | (with_reducible exact ih1 _ _)
   | (with_reducible exact ih2 _ _)
   | (with_reducible exact ih3 _ _)
   | (with_reducible exact ih4 _ _)
   | (with_reducible exact reredosref07_all.mono _ _ _ _)
   | (with_reducible exact reredosref07_has.mono _ _ _)
   | (with_reducible exact LeO.refl _)
   | (with_reducible exact LeO.none _)
   | (with_reducible refine LeO.ite ?_ ?_)
   | (with_reducible refine LeO.bind ?_ (fun _ => ?_))
   | exact ih0 _ _
   | exact ih1 _ _
   | exact ih2 _ _
   | exact ih3 _ _
   | exact ih4 _ _
   | exact reredosref07_all.mono _ _ _ _
   | exact reredosref07_has.mono _ _ _
   | exact LeO.none _
   | refine LeO.ite ?_ ?_
   | refine LeO.bind ?_ (fun _ => ?_)
set_option maxHeartbeats 8000000 in
set_option maxRecDepth 100000 in
theorem reredosref07_kind.calls (k : Nat) (a0 : ByteArray) (r : Int) (w : World) (h : reredosref07_kind.f k a0 = some r) :
  Calls Try.prog 52 #[.string a0] w fun e w' => e = .returned (.int .i64 r) ∧ Drawn0 w w' := by
 have H : (if a0.toList = ([] : List UInt8) then (some 0) else (if 0 < (a0.size : Int) then ((reredosref07_has.f k (⟨#[97, 98, 99, 100, 101, 102, 103, 104, 105, 106, 107, 108, 109, 110, 111, 112, 113, 114, 115, 116, 117, 118, 119, 120, 121, 122]⟩ : ByteArray) (bt a0 0)).bind fun t682 => (if t682 = true then ((reredosref07_all.f k a0 1 (⟨#[97, 98, 99, 100, 101, 102, 103, 104, 105, 106, 107, 108, 109, 110, 111, 112, 113, 114, 115, 116, 117, 118, 119, 120, 121, 122, 48, 49, 50, 51, 52, 53, 54, 55, 56, 57]⟩ : ByteArray)).bind fun t683 => (reredosref07_kind.j0 k a0 t683)) else (reredosref07_kind.j0 k a0 false))) else (none))) = some r := h
 clear h
 by_cases c2 : a0.toList = ([] : List UInt8)
 ·rw [if_pos c2] at H
  have c2b0 := eT c2
  have c2b1 := nF c2
  clear c2
  obtain rfl := Option.some.inj H
  go_enter Try.func52, Try.ntmps52
  go_wp2
  go_ret
  exact ⟨yS, by repeat (first | exact Drawn0.refl _ | apply Drawn0.step)⟩
 ·rw [if_neg c2] at H
  have c2b0 := eF c2
  have c2b1 := nT c2
  have HC3 := am H
  clear H
  go_enter Try.func52, Try.ntmps52
  go_upto_region 3 with (fail)
  go_cut [11] (fun v11 wc => ∃ (kq : Nat) (x11_2 : Bool), v11 = .bool x11_2 ∧ Aside0 (reredosref07_kind.j0 kq a0 x11_2 = some r) ∧ Aside0 (kq ≤ k) ∧ Drawn0 w wc)
  case first =>
   have H := HC3.out
   clear HC3
   by_cases c4 : 0 < (a0.size : Int)
   ·rw [if_pos c4] at H
    have c4b0 : decide (0 < (a0.size : Int)) = true := decide_eq_true c4
    have c4b1 : decide (0 < a0.size) = true := decide_eq_true (by omega)
    clear c4
    (first | rw [c4b0] | (simp only [i64_w, i32_w]; rw [c4b0]) | skip)
    replace H := Option.bind_eq_some_iff.mp H
    obtain ⟨t682, A60, H⟩ := H
    try dsimp only at H
    have A6 := am A60
    clear A60
    by_cases c7 : t682 = true
    ·subst c7
     rw [if_pos rfl] at H
     replace H := Option.bind_eq_some_iff.mp H
     obtain ⟨t683, A80, H⟩ := H
     try dsimp only at H
     have A8 := am A80
     clear A80
     have H' := am H
     clear H
     have p5 : 0 ≤ (0 : Int) := (by omega)
     have q5 : 0 < a0.size := (by have : (0 : Int) < (a0.size : Int) := of_decide_eq_true yY; omega)
     have hx5 : ∀ h : 0 < a0.size, ((a0[0]'h).toNat : Int) = bt a0 0 := bt_at a0 0
     clear p5
     have qi5 : (0 < (a0.size : Int)) = True := eq_true (of_decide_eq_true yY)
     replace q5 := eq_true q5
     go_wp2_with (first | ((with_reducible refine gC 69 rfl ?_); refine gL (some 7) Try.func69 #[.string (⟨#[97, 98, 99, 100, 101, 102, 103, 104, 105, 106, 107, 108, 109, 110, 111, 112, 113, 114, 115, 116, 117, 118, 119, 120, 121, 122]⟩ : ByteArray), .int .u8 (bt a0 0)] ?_; (with_reducible refine (reredosref07_has.calls _ _ _ _ _ A6.out).mono ?_); rintro e w' ⟨rfl, ⟨nd, rfl⟩⟩; refine ⟨_, rfl, ?_⟩) | (go_at_call 70; (with_reducible refine (reredosref07_all.calls _ _ _ _ _ _ A8.out).mono ?_); rintro e w' ⟨rfl, ⟨nd, rfl⟩⟩))
     go_meet
     case rel => exact ⟨_, (t683), yS, H', ⟨yO⟩, by repeat (first | exact Drawn0.refl _ | apply Drawn0.step)⟩
    ·replace c7 := Bool.eq_false_iff.mpr c7
     subst c7
     rw [if_neg (show ¬ (false = true) by decide)] at H
     have H' := am H
     clear H
     have p5 : 0 ≤ (0 : Int) := (by omega)
     have q5 : 0 < a0.size := (by have : (0 : Int) < (a0.size : Int) := of_decide_eq_true yY; omega)
     have hx5 : ∀ h : 0 < a0.size, ((a0[0]'h).toNat : Int) = bt a0 0 := bt_at a0 0
     clear p5
     have qi5 : (0 < (a0.size : Int)) = True := eq_true (of_decide_eq_true yY)
     replace q5 := eq_true q5
     go_wp2_with ((with_reducible refine gC 69 rfl ?_); refine gL (some 7) Try.func69 #[.string (⟨#[97, 98, 99, 100, 101, 102, 103, 104, 105, 106, 107, 108, 109, 110, 111, 112, 113, 114, 115, 116, 117, 118, 119, 120, 121, 122]⟩ : ByteArray), .int .u8 (bt a0 0)] ?_; (with_reducible refine (reredosref07_has.calls _ _ _ _ _ A6.out).mono ?_); rintro e w' ⟨rfl, ⟨nd, rfl⟩⟩; refine ⟨_, rfl, ?_⟩)
     go_meet
     case rel => exact ⟨_, (false), yS, H', ⟨yO⟩, by repeat (first | exact Drawn0.refl _ | apply Drawn0.step)⟩
   ·rw [if_neg c4] at H
    exact absurd H (by simp)
  case rest =>
   clear HC3
   try clear c2
   try clear c2b0
   try clear c2b1
   try clear p2
   try clear c4
   try clear c4b0
   try clear c4b1
   try clear c5
   try clear p5
   try clear q5
   try clear hx5
   try clear qi5
   try clear c6
   try clear c7
   try clear p5
   try clear q5
   obtain ⟨kq, x11_2, rfl, HA, HJ2, ⟨mc2, rfl⟩⟩ := hcut
   cases kq with
   | zero => exact absurd HA.out (by simp [reredosref07_kind.j0])
   | succ kj2 =>
    have H := HA.out
    clear HA
    simp only [reredosref07_kind.j0] at H
    by_cases c9 : x11_2 = true
    ·subst c9
     rw [if_pos rfl] at H
     obtain rfl := Option.some.inj H
     go_wp2
     go_ret
     exact ⟨yS, by repeat (first | exact Drawn0.refl _ | apply Drawn0.step)⟩
    ·replace c9 := Bool.eq_false_iff.mpr c9
     subst c9
     rw [if_neg (show ¬ (false = true) by decide)] at H
     have HC10 := am H
     clear H
     go_upto_region 5 with (fail)
     go_cut [18] (fun v18 wc => ∃ (kq : Nat) (x18_9 : Bool), v18 = .bool x18_9 ∧ Aside0 (reredosref07_kind.j1 kq a0 x18_9 = some r) ∧ Aside0 (kq ≤ kj2) ∧ Drawn0 w wc)
     case first =>
      have H := HC10.out
      clear HC10
      by_cases c11 : 0 < (a0.size : Int)
      ·rw [if_pos c11] at H
       have c11b0 : decide (0 < (a0.size : Int)) = true := decide_eq_true c11
       have c11b1 : decide (0 < a0.size) = true := decide_eq_true (by omega)
       clear c11
       (first | rw [c11b0] | (simp only [i64_w, i32_w]; rw [c11b0]) | skip)
       replace H := Option.bind_eq_some_iff.mp H
       obtain ⟨t684, A130, H⟩ := H
       try dsimp only at H
       have A13 := am A130
       clear A130
       by_cases c14 : t684 = true
       ·subst c14
        rw [if_pos rfl] at H
        replace H := Option.bind_eq_some_iff.mp H
        obtain ⟨t685, A150, H⟩ := H
        try dsimp only at H
        have A15 := am A150
        clear A150
        have H' := am H
        clear H
        have p12 : 0 ≤ (0 : Int) := (by omega)
        have q12 : 0 < a0.size := (by have : (0 : Int) < (a0.size : Int) := of_decide_eq_true yY; omega)
        have hx12 : ∀ h : 0 < a0.size, ((a0[0]'h).toNat : Int) = bt a0 0 := bt_at a0 0
        clear p12
        have qi12 : (0 < (a0.size : Int)) = True := eq_true (of_decide_eq_true yY)
        replace q12 := eq_true q12
        go_wp2_with (first | ((with_reducible refine gC 69 rfl ?_); refine gL (some 14) Try.func69 #[.string (⟨#[65, 66, 67, 68, 69, 70, 71, 72, 73, 74, 75, 76, 77, 78, 79, 80, 81, 82, 83, 84, 85, 86, 87, 88, 89, 90]⟩ : ByteArray), .int .u8 (bt a0 0)] ?_; (with_reducible refine (reredosref07_has.calls _ _ _ _ _ A13.out).mono ?_); rintro e w' ⟨rfl, ⟨nd, rfl⟩⟩; refine ⟨_, rfl, ?_⟩) | (go_at_call 70; (with_reducible refine (reredosref07_all.calls _ _ _ _ _ _ A15.out).mono ?_); rintro e w' ⟨rfl, ⟨nd, rfl⟩⟩))
        go_meet
        case rel => exact ⟨_, (t685), yS, H', ⟨by have := HJ2.out; first | omega | exact Nat.le_refl _⟩, by repeat (first | exact Drawn0.refl _ | apply Drawn0.step)⟩
       ·replace c14 := Bool.eq_false_iff.mpr c14
        subst c14
        rw [if_neg (show ¬ (false = true) by decide)] at H
        have H' := am H
        clear H
        have p12 : 0 ≤ (0 : Int) := (by omega)
        have q12 : 0 < a0.size := (by have : (0 : Int) < (a0.size : Int) := of_decide_eq_true yY; omega)
        have hx12 : ∀ h : 0 < a0.size, ((a0[0]'h).toNat : Int) = bt a0 0 := bt_at a0 0
        clear p12
        have qi12 : (0 < (a0.size : Int)) = True := eq_true (of_decide_eq_true yY)
        replace q12 := eq_true q12
        go_wp2_with ((with_reducible refine gC 69 rfl ?_); refine gL (some 14) Try.func69 #[.string (⟨#[65, 66, 67, 68, 69, 70, 71, 72, 73, 74, 75, 76, 77, 78, 79, 80, 81, 82, 83, 84, 85, 86, 87, 88, 89, 90]⟩ : ByteArray), .int .u8 (bt a0 0)] ?_; (with_reducible refine (reredosref07_has.calls _ _ _ _ _ A13.out).mono ?_); rintro e w' ⟨rfl, ⟨nd, rfl⟩⟩; refine ⟨_, rfl, ?_⟩)
        go_meet
        case rel => exact ⟨_, (false), yS, H', ⟨by have := HJ2.out; first | omega | exact Nat.le_refl _⟩, by repeat (first | exact Drawn0.refl _ | apply Drawn0.step)⟩
      ·rw [if_neg c11] at H
       exact absurd H (by simp)
     case rest =>
      clear HC10
      try clear c1
      try clear p1
      try clear q1
      try clear hx1
      try clear qi1
      try clear c2
      try clear c2b0
      try clear c2b1
      try clear p2
      try clear c4
      try clear c4b0
      try clear c4b1
      try clear c5
      try clear p5
      try clear q5
      try clear hx5
      try clear qi5
      try clear c6
      try clear c7
      try clear c9
      try clear c11
      try clear c11b0
      try clear c11b1
      try clear p12
      try clear q12
      try clear hx12
      try clear qi12
      try clear c14
      try clear p12
      try clear p2
      try clear p5
      try clear q12
      try clear q5
      obtain ⟨kq, x18_9, rfl, HA, HJ9, ⟨mc9, rfl⟩⟩ := hcut
      cases kq with
      | zero => exact absurd HA.out (by simp [reredosref07_kind.j1])
      | succ kj9 =>
       have H := HA.out
       clear HA
       simp only [reredosref07_kind.j1] at H
       by_cases c16 : x18_9 = true
       ·subst c16
        rw [if_pos rfl] at H
        obtain rfl := Option.some.inj H
        go_wp2
        go_ret
        exact ⟨yS, by repeat (first | exact Drawn0.refl _ | apply Drawn0.step)⟩
       ·replace c16 := Bool.eq_false_iff.mpr c16
        subst c16
        rw [if_neg (show ¬ (false = true) by decide)] at H
        have HC17 := am H
        clear H
        go_upto_region 7 with (fail)
        go_cut [26] (fun v26 wc => ∃ (kq : Nat) (x26_16 : Bool), v26 = .bool x26_16 ∧ Aside0 (reredosref07_kind.j2 kq a0 x26_16 = some r) ∧ Aside0 (kq ≤ kj9) ∧ Drawn0 w wc)
        case first =>
         have H := HC17.out
         clear HC17
         by_cases c18 : (a0.size : Int) = 1
         ·rw [if_pos c18] at H
          have c18b0 := eT c18
          have c18b1 := nF c18
          clear c18
          (first | rw [c18b0] | (simp only [i64_w, i32_w]; rw [c18b0]) | skip)
          by_cases c19 : 0 < (a0.size : Int)
          ·rw [if_pos c19] at H
           have c19b0 : decide (0 < (a0.size : Int)) = true := decide_eq_true c19
           have c19b1 : decide (0 < a0.size) = true := decide_eq_true (by omega)
           clear c19
           replace H := Option.bind_eq_some_iff.mp H
           obtain ⟨t686, A210, H⟩ := H
           try dsimp only at H
           have A21 := am A210
           clear A210
           have H' := am H
           clear H
           have p20 : 0 ≤ (0 : Int) := (by omega)
           have q20 : 0 < a0.size := (by have : (0 : Int) < (a0.size : Int) := of_decide_eq_true yY; omega)
           have hx20 : ∀ h : 0 < a0.size, ((a0[0]'h).toNat : Int) = bt a0 0 := bt_at a0 0
           clear p20
           have qi20 : (0 < (a0.size : Int)) = True := eq_true (of_decide_eq_true yY)
           replace q20 := eq_true q20
           go_wp2_with (go_at_call 69; (with_reducible refine (reredosref07_has.calls _ _ _ _ _ A21.out).mono ?_); rintro e w' ⟨rfl, ⟨nd, rfl⟩⟩)
           go_meet
           case rel => exact ⟨_, (t686), yS, H', ⟨by have := HJ2.out; have := HJ9.out; first | omega | exact Nat.le_refl _⟩, by repeat (first | exact Drawn0.refl _ | apply Drawn0.step)⟩
          ·rw [if_neg c19] at H
           exact absurd H (by simp)
         ·rw [if_neg c18] at H
          have c18b0 := eF c18
          have c18b1 := nT c18
          (first | rw [c18b0] | (simp only [i64_w, i32_w]; rw [c18b0]) | skip)
          have H' := am H
          clear H
          go_wp2
          go_meet
          case rel => exact ⟨_, (false), yS, H', ⟨by have := HJ2.out; have := HJ9.out; first | omega | exact Nat.le_refl _⟩, by repeat (first | exact Drawn0.refl _ | apply Drawn0.step)⟩
        case rest =>
         clear HC17
         try clear c1
         try clear p1
         try clear q1
         try clear hx1
         try clear qi1
         try clear c2
         try clear c2b0
         try clear c2b1
         try clear p2
         try clear q2
         try clear hx2
         try clear qi2
         try clear c4
         try clear c4b0
         try clear c4b1
         try clear c5
         try clear p5
         try clear q5
         try clear hx5
         try clear qi5
         try clear c6
         try clear c7
         try clear c9
         try clear c11
         try clear c11b0
         try clear c11b1
         try clear p12
         try clear q12
         try clear hx12
         try clear qi12
         try clear c14
         try clear c16
         try clear c18
         try clear c18b0
         try clear c18b1
         try clear c19
         try clear c19b0
         try clear c19b1
         try clear p20
         try clear q20
         try clear hx20
         try clear qi20
         try clear p1
         try clear p12
         try clear p2
         try clear p20
         try clear p5
         try clear q1
         try clear q12
         try clear q20
         try clear q5
         obtain ⟨kq, x26_16, rfl, HA, HJ16, ⟨mc16, rfl⟩⟩ := hcut
         cases kq with
         | zero => exact absurd HA.out (by simp [reredosref07_kind.j2])
         | succ kj16 =>
          have H := HA.out
          clear HA
          simp only [reredosref07_kind.j2] at H
          by_cases c22 : x26_16 = true
          ·subst c22
           rw [if_pos rfl] at H
           obtain rfl := Option.some.inj H
           go_wp2
           go_ret
           exact ⟨yS, by repeat (first | exact Drawn0.refl _ | apply Drawn0.step)⟩
          ·replace c22 := Bool.eq_false_iff.mpr c22
           subst c22
           rw [if_neg (show ¬ (false = true) by decide)] at H
           have HC23 := am H
           clear H
           go_upto_region 9 with (fail)
           go_cut [34] (fun v34 wc => ∃ (kq : Nat) (x34_22 : Bool), v34 = .bool x34_22 ∧ Aside0 (reredosref07_kind.j3 kq a0 x34_22 = some r) ∧ Aside0 (kq ≤ kj16) ∧ Drawn0 w wc)
           case first =>
            have H := HC23.out
            clear HC23
            by_cases c24 : (a0.size : Int) = 1
            ·rw [if_pos c24] at H
             have c24b0 := eT c24
             have c24b1 := nF c24
             clear c24
             (first | rw [c24b0] | (simp only [i64_w, i32_w]; rw [c24b0]) | skip)
             by_cases c25 : 0 < (a0.size : Int)
             ·rw [if_pos c25] at H
              have c25b0 : decide (0 < (a0.size : Int)) = true := decide_eq_true c25
              have c25b1 : decide (0 < a0.size) = true := decide_eq_true (by omega)
              clear c25
              replace H := Option.bind_eq_some_iff.mp H
              obtain ⟨t687, A270, H⟩ := H
              try dsimp only at H
              have A27 := am A270
              clear A270
              have H' := am H
              clear H
              have p26 : 0 ≤ (0 : Int) := (by omega)
              have q26 : 0 < a0.size := (by have : (0 : Int) < (a0.size : Int) := of_decide_eq_true yY; omega)
              have hx26 : ∀ h : 0 < a0.size, ((a0[0]'h).toNat : Int) = bt a0 0 := bt_at a0 0
              clear p26
              have qi26 : (0 < (a0.size : Int)) = True := eq_true (of_decide_eq_true yY)
              replace q26 := eq_true q26
              go_wp2_with (go_at_call 69; (with_reducible refine (reredosref07_has.calls _ _ _ _ _ A27.out).mono ?_); rintro e w' ⟨rfl, ⟨nd, rfl⟩⟩)
              go_meet
              case rel => exact ⟨_, (t687), yS, H', ⟨by have := HJ2.out; have := HJ9.out; have := HJ16.out; first | omega | exact Nat.le_refl _⟩, by repeat (first | exact Drawn0.refl _ | apply Drawn0.step)⟩
             ·rw [if_neg c25] at H
              exact absurd H (by simp)
            ·rw [if_neg c24] at H
             have c24b0 := eF c24
             have c24b1 := nT c24
             (first | rw [c24b0] | (simp only [i64_w, i32_w]; rw [c24b0]) | skip)
             have H' := am H
             clear H
             go_wp2
             go_meet
             case rel => exact ⟨_, (false), yS, H', ⟨by have := HJ2.out; have := HJ9.out; have := HJ16.out; first | omega | exact Nat.le_refl _⟩, by repeat (first | exact Drawn0.refl _ | apply Drawn0.step)⟩
           case rest =>
            clear HC23
            try clear c1
            try clear p1
            try clear q1
            try clear hx1
            try clear qi1
            try clear c2
            try clear c2b0
            try clear c2b1
            try clear p2
            try clear q2
            try clear hx2
            try clear qi2
            try clear c4
            try clear c4b0
            try clear c4b1
            try clear c5
            try clear p5
            try clear q5
            try clear hx5
            try clear qi5
            try clear c6
            try clear c7
            try clear c9
            try clear c11
            try clear c11b0
            try clear c11b1
            try clear p12
            try clear q12
            try clear hx12
            try clear qi12
            try clear c14
            try clear c16
            try clear c18
            try clear c18b0
            try clear c18b1
            try clear c19
            try clear c19b0
            try clear c19b1
            try clear p20
            try clear q20
            try clear hx20
            try clear qi20
            try clear c22
            try clear c24
            try clear c24b0
            try clear c24b1
            try clear c25
            try clear c25b0
            try clear c25b1
            try clear p26
            try clear q26
            try clear hx26
            try clear qi26
            try clear p1
            try clear p12
            try clear p2
            try clear p20
            try clear p26
            try clear p5
            try clear q1
            try clear q12
            try clear q2
            try clear q20
            try clear q26
            try clear q5
            obtain ⟨kq, x34_22, rfl, HA, HJ22, ⟨mc22, rfl⟩⟩ := hcut
            cases kq with
            | zero => exact absurd HA.out (by simp [reredosref07_kind.j3])
            | succ kj22 =>
             have H := HA.out
             clear HA
             simp only [reredosref07_kind.j3] at H
             by_cases c28 : x34_22 = true
             ·subst c28
              rw [if_pos rfl] at H
              obtain rfl := Option.some.inj H
              go_wp2
              go_ret
              exact ⟨yS, by repeat (first | exact Drawn0.refl _ | apply Drawn0.step)⟩
             ·replace c28 := Bool.eq_false_iff.mpr c28
              subst c28
              rw [if_neg (show ¬ (false = true) by decide)] at H
              have HC29 := am H
              clear H
              go_upto_region 11 with (fail)
              go_cut [42] (fun v42 wc => ∃ (kq : Nat) (x42_28 : Bool), v42 = .bool x42_28 ∧ Aside0 (reredosref07_kind.j4 kq a0 x42_28 = some r) ∧ Aside0 (kq ≤ kj22) ∧ Drawn0 w wc)
              case first =>
               have H := HC29.out
               clear HC29
               by_cases c30 : (a0.size : Int) = 1
               ·rw [if_pos c30] at H
                have c30b0 := eT c30
                have c30b1 := nF c30
                clear c30
                (first | rw [c30b0] | (simp only [i64_w, i32_w]; rw [c30b0]) | skip)
                by_cases c31 : 0 < (a0.size : Int)
                ·rw [if_pos c31] at H
                 have c31b0 : decide (0 < (a0.size : Int)) = true := decide_eq_true c31
                 have c31b1 : decide (0 < a0.size) = true := decide_eq_true (by omega)
                 clear c31
                 replace H := Option.bind_eq_some_iff.mp H
                 obtain ⟨t688, A330, H⟩ := H
                 try dsimp only at H
                 have A33 := am A330
                 clear A330
                 have H' := am H
                 clear H
                 have p32 : 0 ≤ (0 : Int) := (by omega)
                 have q32 : 0 < a0.size := (by have : (0 : Int) < (a0.size : Int) := of_decide_eq_true yY; omega)
                 have hx32 : ∀ h : 0 < a0.size, ((a0[0]'h).toNat : Int) = bt a0 0 := bt_at a0 0
                 clear p32
                 have qi32 : (0 < (a0.size : Int)) = True := eq_true (of_decide_eq_true yY)
                 replace q32 := eq_true q32
                 go_wp2_with (go_at_call 69; (with_reducible refine (reredosref07_has.calls _ _ _ _ _ A33.out).mono ?_); rintro e w' ⟨rfl, ⟨nd, rfl⟩⟩)
                 go_meet
                 case rel => exact ⟨_, (t688), yS, H', ⟨by have := HJ2.out; have := HJ9.out; have := HJ16.out; have := HJ22.out; first | omega | exact Nat.le_refl _⟩, by repeat (first | exact Drawn0.refl _ | apply Drawn0.step)⟩
                ·rw [if_neg c31] at H
                 exact absurd H (by simp)
               ·rw [if_neg c30] at H
                have c30b0 := eF c30
                have c30b1 := nT c30
                (first | rw [c30b0] | (simp only [i64_w, i32_w]; rw [c30b0]) | skip)
                have H' := am H
                clear H
                go_wp2
                go_meet
                case rel => exact ⟨_, (false), yS, H', ⟨by have := HJ2.out; have := HJ9.out; have := HJ16.out; have := HJ22.out; first | omega | exact Nat.le_refl _⟩, by repeat (first | exact Drawn0.refl _ | apply Drawn0.step)⟩
              case rest =>
               clear HC29
               try clear c1
               try clear p1
               try clear q1
               try clear hx1
               try clear qi1
               try clear c2
               try clear c2b0
               try clear c2b1
               try clear p2
               try clear q2
               try clear hx2
               try clear qi2
               try clear c3
               try clear p3
               try clear q3
               try clear hx3
               try clear qi3
               try clear c4
               try clear c4b0
               try clear c4b1
               try clear c5
               try clear p5
               try clear q5
               try clear hx5
               try clear qi5
               try clear c6
               try clear c7
               try clear c9
               try clear c11
               try clear c11b0
               try clear c11b1
               try clear p12
               try clear q12
               try clear hx12
               try clear qi12
               try clear c14
               try clear c16
               try clear c18
               try clear c18b0
               try clear c18b1
               try clear c19
               try clear c19b0
               try clear c19b1
               try clear p20
               try clear q20
               try clear hx20
               try clear qi20
               try clear c22
               try clear c24
               try clear c24b0
               try clear c24b1
               try clear c25
               try clear c25b0
               try clear c25b1
               try clear p26
               try clear q26
               try clear hx26
               try clear qi26
               try clear c28
               try clear c30
               try clear c30b0
               try clear c30b1
               try clear c31
               try clear c31b0
               try clear c31b1
               try clear p32
               try clear q32
               try clear hx32
               try clear qi32
               try clear p1
               try clear p12
               try clear p2
               try clear p20
               try clear p26
               try clear p32
               try clear p5
               try clear q1
               try clear q12
               try clear q2
               try clear q20
               try clear q26
               try clear q32
               try clear q5
               obtain ⟨kq, x42_28, rfl, HA, HJ28, ⟨mc28, rfl⟩⟩ := hcut
               cases kq with
               | zero => exact absurd HA.out (by simp [reredosref07_kind.j4])
               | succ kj28 =>
                have H := HA.out
                clear HA
                simp only [reredosref07_kind.j4] at H
                by_cases c34 : x42_28 = true
                ·subst c34
                 rw [if_pos rfl] at H
                 obtain rfl := Option.some.inj H
                 go_wp2
                 go_ret
                 exact ⟨yS, by repeat (first | exact Drawn0.refl _ | apply Drawn0.step)⟩
                ·replace c34 := Bool.eq_false_iff.mpr c34
                 subst c34
                 rw [if_neg (show ¬ (false = true) by decide)] at H
                 by_cases c35 : 0 < (a0.size : Int)
                 ·rw [if_pos c35] at H
                  have c35b0 : decide (0 < (a0.size : Int)) = true := decide_eq_true c35
                  have c35b1 : decide (0 < a0.size) = true := decide_eq_true (by omega)
                  clear c35
                  by_cases c37 : (bt a0 0) = 95
                  ·rw [if_pos c37] at H
                   have c37b0 := eT c37
                   have c37b1 := nF c37
                   clear c37
                   replace H := Option.bind_eq_some_iff.mp H
                   obtain ⟨t689, A380, H⟩ := H
                   try dsimp only at H
                   have A38 := am A380
                   clear A380
                   by_cases c39 : t689 = true
                   ·subst c39
                    rw [if_pos rfl] at H
                    obtain rfl := Option.some.inj H
                    have p36 : 0 ≤ (0 : Int) := (by omega)
                    have q36 : 0 < a0.size := (by have : (0 : Int) < (a0.size : Int) := of_decide_eq_true yY; omega)
                    have hx36 : ∀ h : 0 < a0.size, ((a0[0]'h).toNat : Int) = bt a0 0 := bt_at a0 0
                    clear p36
                    have qi36 : (0 < (a0.size : Int)) = True := eq_true (of_decide_eq_true yY)
                    replace q36 := eq_true q36
                    go_wp2_with (go_at_call 70; (with_reducible refine (reredosref07_all.calls _ _ _ _ _ _ A38.out).mono ?_); rintro e w' ⟨rfl, ⟨nd, rfl⟩⟩)
                    go_ret
                    exact ⟨yS, by repeat (first | exact Drawn0.refl _ | apply Drawn0.step)⟩
                   ·replace c39 := Bool.eq_false_iff.mpr c39
                    subst c39
                    rw [if_neg (show ¬ (false = true) by decide)] at H
                    obtain rfl := Option.some.inj H
                    have p36 : 0 ≤ (0 : Int) := (by omega)
                    have q36 : 0 < a0.size := (by have : (0 : Int) < (a0.size : Int) := of_decide_eq_true yY; omega)
                    have hx36 : ∀ h : 0 < a0.size, ((a0[0]'h).toNat : Int) = bt a0 0 := bt_at a0 0
                    clear p36
                    have qi36 : (0 < (a0.size : Int)) = True := eq_true (of_decide_eq_true yY)
                    replace q36 := eq_true q36
                    go_wp2_with (go_at_call 70; (with_reducible refine (reredosref07_all.calls _ _ _ _ _ _ A38.out).mono ?_); rintro e w' ⟨rfl, ⟨nd, rfl⟩⟩)
                    go_ret
                    exact ⟨yS, by repeat (first | exact Drawn0.refl _ | apply Drawn0.step)⟩
                  ·rw [if_neg c37] at H
                   have c37b0 := eF c37
                   have c37b1 := nT c37
                   replace H := Option.bind_eq_some_iff.mp H
                   obtain ⟨t690, A410, H⟩ := H
                   try dsimp only at H
                   have A41 := am A410
                   clear A410
                   by_cases c42 : t690 = true
                   ·subst c42
                    rw [if_pos rfl] at H
                    replace H := Option.bind_eq_some_iff.mp H
                    obtain ⟨t691, A430, H⟩ := H
                    try dsimp only at H
                    have A43 := am A430
                    clear A430
                    by_cases c44 : t691 = true
                    ·subst c44
                     rw [if_pos rfl] at H
                     obtain rfl := Option.some.inj H
                     have p36 : 0 ≤ (0 : Int) := (by omega)
                     have q36 : 0 < a0.size := (by have : (0 : Int) < (a0.size : Int) := of_decide_eq_true yY; omega)
                     have hx36 : ∀ h : 0 < a0.size, ((a0[0]'h).toNat : Int) = bt a0 0 := bt_at a0 0
                     clear p36
                     have qi36 : (0 < (a0.size : Int)) = True := eq_true (of_decide_eq_true yY)
                     replace q36 := eq_true q36
                     have p40 : 0 ≤ (0 : Int) := (by omega)
                     have q40 : 0 < a0.size := (by have : (0 : Int) < (a0.size : Int) := of_decide_eq_true yY; omega)
                     have hx40 : ∀ h : 0 < a0.size, ((a0[0]'h).toNat : Int) = bt a0 0 := bt_at a0 0
                     clear p40
                     have qi40 : (0 < (a0.size : Int)) = True := eq_true (of_decide_eq_true yY)
                     replace q40 := eq_true q40
                     go_wp2_with (first | (go_at_call 69; (with_reducible refine (reredosref07_has.calls _ _ _ _ _ A41.out).mono ?_); rintro e w' ⟨rfl, ⟨nd, rfl⟩⟩) | (go_at_call 70; (with_reducible refine (reredosref07_all.calls _ _ _ _ _ _ A43.out).mono ?_); rintro e w' ⟨rfl, ⟨nd, rfl⟩⟩))
                     go_ret
                     exact ⟨yS, by repeat (first | exact Drawn0.refl _ | apply Drawn0.step)⟩
                    ·replace c44 := Bool.eq_false_iff.mpr c44
                     subst c44
                     rw [if_neg (show ¬ (false = true) by decide)] at H
                     obtain rfl := Option.some.inj H
                     have p36 : 0 ≤ (0 : Int) := (by omega)
                     have q36 : 0 < a0.size := (by have : (0 : Int) < (a0.size : Int) := of_decide_eq_true yY; omega)
                     have hx36 : ∀ h : 0 < a0.size, ((a0[0]'h).toNat : Int) = bt a0 0 := bt_at a0 0
                     clear p36
                     have qi36 : (0 < (a0.size : Int)) = True := eq_true (of_decide_eq_true yY)
                     replace q36 := eq_true q36
                     have p40 : 0 ≤ (0 : Int) := (by omega)
                     have q40 : 0 < a0.size := (by have : (0 : Int) < (a0.size : Int) := of_decide_eq_true yY; omega)
                     have hx40 : ∀ h : 0 < a0.size, ((a0[0]'h).toNat : Int) = bt a0 0 := bt_at a0 0
                     clear p40
                     have qi40 : (0 < (a0.size : Int)) = True := eq_true (of_decide_eq_true yY)
                     replace q40 := eq_true q40
                     go_wp2_with (first | (go_at_call 69; (with_reducible refine (reredosref07_has.calls _ _ _ _ _ A41.out).mono ?_); rintro e w' ⟨rfl, ⟨nd, rfl⟩⟩) | (go_at_call 70; (with_reducible refine (reredosref07_all.calls _ _ _ _ _ _ A43.out).mono ?_); rintro e w' ⟨rfl, ⟨nd, rfl⟩⟩))
                     go_ret
                     exact ⟨yS, by repeat (first | exact Drawn0.refl _ | apply Drawn0.step)⟩
                   ·replace c42 := Bool.eq_false_iff.mpr c42
                    subst c42
                    rw [if_neg (show ¬ (false = true) by decide)] at H
                    obtain rfl := Option.some.inj H
                    have p36 : 0 ≤ (0 : Int) := (by omega)
                    have q36 : 0 < a0.size := (by have : (0 : Int) < (a0.size : Int) := of_decide_eq_true yY; omega)
                    have hx36 : ∀ h : 0 < a0.size, ((a0[0]'h).toNat : Int) = bt a0 0 := bt_at a0 0
                    clear p36
                    have qi36 : (0 < (a0.size : Int)) = True := eq_true (of_decide_eq_true yY)
                    replace q36 := eq_true q36
                    have p40 : 0 ≤ (0 : Int) := (by omega)
                    have q40 : 0 < a0.size := (by have : (0 : Int) < (a0.size : Int) := of_decide_eq_true yY; omega)
                    have hx40 : ∀ h : 0 < a0.size, ((a0[0]'h).toNat : Int) = bt a0 0 := bt_at a0 0
                    clear p40
                    have qi40 : (0 < (a0.size : Int)) = True := eq_true (of_decide_eq_true yY)
                    replace q40 := eq_true q40
                    go_wp2_with (go_at_call 69; (with_reducible refine (reredosref07_has.calls _ _ _ _ _ A41.out).mono ?_); rintro e w' ⟨rfl, ⟨nd, rfl⟩⟩)
                    go_ret
                    exact ⟨yS, by repeat (first | exact Drawn0.refl _ | apply Drawn0.step)⟩
                 ·rw [if_neg c35] at H
                  exact absurd H (by simp)
end Go.Proofs.Ytdelccahgchadaa.P
end
section
namespace Go.Proofs.Ytdelccahgchadaa.P
open Go.RowKit Go.Proofs.YtdelccahgchadaaW.PrintWords Go.Proofs.YtdelccahgchadaaW.PrintLast Go.Proofs.YtdelccahgchadaaW.PrintMore
attribute [local go_sem] max2_int min2_int max_two min_two max_three min_three max_four min_four   
set_option linter.unusedVariables false
set_option linter.unusedSimpArgs false
mutual
def reredosref07_Lex.l0 : Nat → ByteArray → List (S71) → Int → Option ((List (S71)) × Int × Int)
 | 0, _, _, _ => none
 | k + 1, x0, x5, x6 => if x6 < (x0.size : Int) then (if 0 ≤ x6 then (if (bt x0 x6) = 32 then (reredosref07_Lex.l0 k x0 x5 (wrap64 (x6 + 1))) else (reredosref07_Lex.l1 k x0 x5 x6 0)) else (none)) else (some (x5, 0, 0))
def reredosref07_Lex.j2 : Nat → ByteArray → List (S71) → Int → Int → Option ((List (S71)) × Int × Int)
 | 0, _, _, _, _ => none
 | k + 1, x0, x5, x6, x7 => if 0 ≤ x6 then (if x6 ≤ (wrap64 (x6 + x7)) then (if (wrap64 (x6 + x7)) ≤ (x0.size : Int) then ((reredosref07_Number.f k (x0.extract (x6 : Int).toNat ((wrap64 (x6 + x7)) : Int).toNat)).bind fun bt693 => (if x7 = 0 then (some (([] : List (S71)), x6, 2)) else ((reredosref07_kind.f k (x0.extract (x6 : Int).toNat ((wrap64 (x6 + x7)) : Int).toNat)).bind fun t695 => (if t695 = 1 then (if bt693.2 = true then ((reredosref07_kind.f k (x0.extract (x6 : Int).toNat ((wrap64 (x6 + x7)) : Int).toNat)).bind fun t696 => (if x5.length < 4398046511104 then (reredosref07_Lex.l0 k x0 (x5 ++ [(⟨t696, x0.extract (x6 : Int).toNat ((wrap64 (x6 + x7)) : Int).toNat, x6⟩ : S71)]) (wrap64 (x6 + x7))) else (none))) else (some (([] : List (S71)), x6, 2))) else ((reredosref07_kind.f k (x0.extract (x6 : Int).toNat ((wrap64 (x6 + x7)) : Int).toNat)).bind fun t700 => (if x5.length < 4398046511104 then (reredosref07_Lex.l0 k x0 (x5 ++ [(⟨t700, x0.extract (x6 : Int).toNat ((wrap64 (x6 + x7)) : Int).toNat, x6⟩ : S71)]) (wrap64 (x6 + x7))) else (none))))))) else (none)) else (none)) else (none)
def reredosref07_Lex.l1 : Nat → ByteArray → List (S71) → Int → Int → Option ((List (S71)) × Int × Int)
 | 0, _, _, _, _ => none
 | k + 1, x0, x5, x6, x7 => if (wrap64 (x6 + x7)) < (x0.size : Int) then (if 0 ≤ x6 then (if x6 ≤ (wrap64 ((wrap64 (x6 + x7)) + 1)) then (if (wrap64 ((wrap64 (x6 + x7)) + 1)) ≤ (x0.size : Int) then ((reredosref07_kind.f k (x0.extract (x6 : Int).toNat ((wrap64 ((wrap64 (x6 + x7)) + 1)) : Int).toNat)).bind fun t692 => (if t692 > 0 then (reredosref07_Lex.l1 k x0 x5 x6 (wrap64 (x7 + 1))) else (reredosref07_Lex.j2 k x0 x5 x6 x7))) else (none)) else (none)) else (none)) else (reredosref07_Lex.j2 k x0 x5 x6 x7)
end
def reredosref07_Lex.f (k : Nat) (a0 : ByteArray) : Option ((List (S71)) × Int × Int) := if (a0.size : Int) > 256 then (some (([] : List (S71)), 0, 8)) else (reredosref07_Lex.l0 k a0 ([] : List (S71)) 0)
theorem reredosref07_Lex.mono_l : ∀ k, (∀ y0 y1 y2, LeO (reredosref07_Lex.l0 k y0 y1 y2) (reredosref07_Lex.l0 (k + 1) y0 y1 y2)) ∧ (∀ y0 y1 y2 y3, LeO (reredosref07_Lex.j2 k y0 y1 y2 y3) (reredosref07_Lex.j2 (k + 1) y0 y1 y2 y3)) ∧ (∀ y0 y1 y2 y3, LeO (reredosref07_Lex.l1 k y0 y1 y2 y3) (reredosref07_Lex.l1 (k + 1) y0 y1 y2 y3))
 | 0 => ⟨fun _ _ _ r h => by simp [reredosref07_Lex.l0] at h, fun _ _ _ _ r h => by simp [reredosref07_Lex.j2] at h, fun _ _ _ _ r h => by simp [reredosref07_Lex.l1] at h⟩
 | k + 1 => by
  obtain ⟨ih0, ih1, ih2⟩ := reredosref07_Lex.mono_l k
  refine ⟨?_, ?_, ?_⟩
  ·intro y0 y1 y2
   unfold reredosref07_Lex.l0
   repeat' first
   | (with_reducible exact ih0 _ _ _)
   | (with_reducible exact ih1 _ _ _ _)
   | (with_reducible exact ih2 _ _ _ _)
   | (with_reducible exact reredosref07_Number.mono _ _)
   | (with_reducible exact reredosref07_kind.mono _ _)
   | (with_reducible exact LeO.refl _)
   | (with_reducible exact LeO.none _)
   | (with_reducible refine LeO.ite ?_ ?_)
   | (with_reducible refine LeO.bind ?_ (fun _ => ?_))
   | exact ih0 _ _ _
   | exact ih1 _ _ _ _
   | exact ih2 _ _ _ _
   | exact reredosref07_Number.mono _ _
   | exact reredosref07_kind.mono _ _
   | exact LeO.none _
   | refine LeO.ite ?_ ?_
   | refine LeO.bind ?_ (fun _ => ?_)
  ·intro y0 y1 y2 y3
   unfold reredosref07_Lex.j2
   repeat' first
   | (with_reducible exact ih0 _ _ _)
   | (with_reducible exact ih1 _ _ _ _)
   | (with_reducible exact ih2 _ _ _ _)
   | (with_reducible exact reredosref07_Number.mono _ _)
   | (with_reducible exact reredosref07_kind.mono _ _)
   | (with_reducible exact LeO.refl _)
   | (with_reducible exact LeO.none _)
   | (with_reducible refine LeO.ite ?_ ?_)
   | (with_reducible refine LeO.bind ?_ (fun _ => ?_))
   | exact ih0 _ _ _
   | exact ih1 _ _ _ _
   | exact ih2 _ _ _ _
   | exact reredosref07_Number.mono _ _
   | exact reredosref07_kind.mono _ _
   | exact LeO.none _
   | refine LeO.ite ?_ ?_
   | refine LeO.bind ?_ (fun _ => ?_)
  ·intro y0 y1 y2 y3
   unfold reredosref07_Lex.l1
   repeat' first
   | (with_reducible exact ih0 _ _ _)
   | (with_reducible exact ih1 _ _ _ _)
   | (with_reducible exact ih2 _ _ _ _)
   | (with_reducible exact reredosref07_Number.mono _ _)
   | (with_reducible exact reredosref07_kind.mono _ _)
   | (with_reducible exact LeO.refl _)
   | (with_reducible exact LeO.none _)
   | (with_reducible refine LeO.ite ?_ ?_)
   | (with_reducible refine LeO.bind ?_ (fun _ => ?_))
   | exact ih0 _ _ _
   | exact ih1 _ _ _ _
   | exact ih2 _ _ _ _
   | exact reredosref07_Number.mono _ _
   | exact reredosref07_kind.mono _ _
   | exact LeO.none _
   | refine LeO.ite ?_ ?_
   | refine LeO.bind ?_ (fun _ => ?_)
theorem reredosref07_Lex.mono : ∀ a0 k, LeO (reredosref07_Lex.f k a0) (reredosref07_Lex.f (k + 1) a0) := by
 intro a0 k
 obtain ⟨ih0, ih1, ih2⟩ := reredosref07_Lex.mono_l k
 unfold reredosref07_Lex.f
 repeat' first
   | (with_reducible exact ih0 _ _ _)
   | (with_reducible exact ih1 _ _ _ _)
   | (with_reducible exact ih2 _ _ _ _)
   | (with_reducible exact reredosref07_Number.mono _ _)
   | (with_reducible exact reredosref07_kind.mono _ _)
   | (with_reducible exact LeO.refl _)
   | (with_reducible exact LeO.none _)
   | (with_reducible refine LeO.ite ?_ ?_)
   | (with_reducible refine LeO.bind ?_ (fun _ => ?_))
   | exact ih0 _ _ _
   | exact ih1 _ _ _ _
   | exact ih2 _ _ _ _
   | exact reredosref07_Number.mono _ _
   | exact reredosref07_kind.mono _ _
   | exact LeO.none _
   | refine LeO.ite ?_ ?_
   | refine LeO.bind ?_ (fun _ => ?_)
set_option maxHeartbeats 8000000 in
set_option maxRecDepth 100000 in
theorem reredosref07_Lex.calls (k : Nat) (a0 : ByteArray) (r1 : List (S71)) (r2 : Int) (r3 : Int) (w : World) (h : reredosref07_Lex.f k a0 = some (r1, r2, r3)) :
  Calls Try.prog 36 #[.string a0] w fun e w' => ∃ v0_ : Value, e = .returned (.tuple #[v0_, .int .i64 r2, .int .i64 r3]) ∧ Kd.R k71 71 w' w.heap.size (fun _ => True) v0_ r1 ∧ Below w.heap.size w w' := by
 have hu71 := Try.underlying71
 have HB := am (Below.refl w.heap.size w)
 have H : (if (a0.size : Int) > 256 then (some (([] : List (S71)), 0, 8)) else (reredosref07_Lex.l0 k a0 ([] : List (S71)) 0)) = some (r1, r2, r3) := h
 clear h
 by_cases c2 : (a0.size : Int) > 256
 ·rw [if_pos c2] at H
  have c2b0 : decide (256 < (a0.size : Int)) = true := decide_eq_true c2
  have c2b1 : decide (256 < a0.size) = true := decide_eq_true (by omega)
  clear c2
  simp only [Option.some.injEq, Prod.mk.injEq] at H
  obtain ⟨rfl, rfl, rfl⟩ := H
  go_enter Try.func36, Try.ntmps36
  go_wp2
  go_ret3
  exact ⟨_, yE, by first | exact Kd.R_nil _ _ _ _ _ | exact Kd.N_nil _ _ _ _ _ | exact Kd.V_nil _ _ _ _ _ | exact Kd.Q_nil _ _ _ _ _ | exact Kd.S_nil _ _ _ _ _, (kL HB)⟩
 ·rw [if_neg c2] at H
  have c2b0 : decide (256 < (a0.size : Int)) = false := decide_eq_false c2
  have c2b1 : decide (256 < a0.size) = false := decide_eq_false (by omega)
  clear c2
  have H' := am H
  clear H
  go_enter Try.func36, Try.ntmps36
  go_wp2
  go_loopg [5, 6] k (fun kq v5 v6 w' => ∃ (x5_1 : List (S71)) (x6_1 : Int), v6 = .int .i64 x6_1 ∧ Aside0 (reredosref07_Lex.l0 kq a0 x5_1 x6_1 = some (r1, r2, r3)) ∧ Aside0 (kq ≤ k) ∧ Aside0 (Kd.R k71 71 w' w.heap.size (fun _ => True) v5 x5_1) ∧ Aside0 (Below w.heap.size w w'))
  case atStart => exact ⟨(([] : List (S71))), (0), yS, H', ⟨Nat.le_refl _⟩, ⟨by first | exact Kd.R_nil _ _ _ _ _ | exact Kd.N_nil _ _ _ _ _ | exact Kd.V_nil _ _ _ _ _ | exact Kd.Q_nil _ _ _ _ _ | exact Kd.S_nil _ _ _ _ _⟩, ⟨(kL HB)⟩⟩
  case round =>
   clear H'
   try clear c2
   try clear c2b0
   try clear c2b1
   try clear p2
   obtain ⟨x5_1, x6_1, rfl, HA, HK1, HO_5, HB⟩ := hrel
   cases gk with
   | zero => exact absurd HA.out (by simp [reredosref07_Lex.l0])
   | succ k1 =>
    have H := HA.out
    clear HA
    simp only [reredosref07_Lex.l0] at H
    by_cases c3 : x6_1 < (a0.size : Int)
    ·rw [if_pos c3] at H
     have c3b0 : decide (x6_1 < (a0.size : Int)) = true := decide_eq_true c3
     clear c3
     by_cases c4 : 0 ≤ x6_1
     ·rw [if_pos c4] at H
      have c4b0 : decide (0 ≤ x6_1) = true := decide_eq_true c4
      clear c4
      by_cases c6 : (bt a0 x6_1) = 32
      ·rw [if_pos c6] at H
       have c6b0 := eT c6
       have c6b1 := nF c6
       clear c6
       have H' := am H
       clear H
       have p5 : 0 ≤ (x6_1 : Int) := of_decide_eq_true yY
       have q5 : x6_1 < (a0.size : Int) := of_decide_eq_true yY
       have hx5 := bt_at a0 x6_1
       replace p5 := eq_true p5
       replace q5 := eq_true q5
       go_wp2
       go_roundg k1
       case measure => have := HK1.out; omega
       case rel => exact ⟨(x5_1), (wrap64 (x6_1 + 1)), yS, H', ⟨by have := HK1.out; omega⟩, ⟨rB HO_5⟩, ⟨(kL HB)⟩⟩
      ·rw [if_neg c6] at H
       have c6b0 := eF c6
       have c6b1 := nT c6
       have HC7 := am H
       clear H
       have p5 : 0 ≤ (x6_1 : Int) := of_decide_eq_true yY
       have q5 : x6_1 < (a0.size : Int) := of_decide_eq_true yY
       have hx5 := bt_at a0 x6_1
       replace p5 := eq_true p5
       replace q5 := eq_true q5
       go_upto_block 2 with (fail)
       go_cut [7] (fun v7 wc => ∃ (kq : Nat) (x7_6 : Int), v7 = .int .i64 x7_6 ∧ Aside0 (reredosref07_Lex.j2 kq a0 x5_1 x6_1 x7_6 = some (r1, r2, r3)) ∧ Aside0 (kq ≤ k1) ∧ Aside0 (Kd.R k71 71 wc w.heap.size (fun _ => True) u5 x5_1) ∧ Aside0 (Below w.heap.size w wc))
       case first =>
        have H := HC7.out
        clear HC7
        have H' := am H
        clear H
        go_wp2
        go_loopg [7] k1 (fun kq v7 w' => ∃ (x7_2 : Int), v7 = .int .i64 x7_2 ∧ Aside0 (reredosref07_Lex.l1 kq a0 x5_1 x6_1 x7_2 = some (r1, r2, r3)) ∧ Aside0 (kq ≤ k1) ∧ Aside0 (Kd.R k71 71 w' w.heap.size (fun _ => True) u5 x5_1) ∧ Aside0 (Below w.heap.size w w'))
        case atStart => exact ⟨(0), yS, H', ⟨Nat.le_refl _⟩, ⟨rB HO_5⟩, ⟨(kL HB)⟩⟩
        case round =>
         clear H'
         try clear c2
         try clear c2b0
         try clear c2b1
         try clear p2
         try clear c3
         try clear c3b0
         try clear c4
         try clear c4b0
         try clear p5
         try clear q5
         try clear hx5
         try clear c6
         try clear c6b0
         try clear c6b1
         try clear p6
         try clear p2
         try clear p5
         try clear q5
         obtain ⟨x7_2, rfl, HA, HK2, HO_5, HB⟩ := hrel
         cases gk with
         | zero => exact absurd HA.out (by simp [reredosref07_Lex.l1])
         | succ k2 =>
          have H := HA.out
          clear HA
          simp only [reredosref07_Lex.l1] at H
          by_cases c8 : (wrap64 (x6_1 + x7_2)) < (a0.size : Int)
          ·rw [if_pos c8] at H
           have c8b0 : decide ((wrap64 (x6_1 + x7_2)) < (a0.size : Int)) = true := decide_eq_true c8
           clear c8
           (first | rw [c8b0] | (simp only [i64_w, i32_w]; rw [c8b0]) | skip)
           by_cases c9 : 0 ≤ x6_1
           ·rw [if_pos c9] at H
            have c9b0 := eq_true c9
            have c9b1 : decide (0 ≤ x6_1) = true := decide_eq_true c9
            clear c9
            by_cases c10 : x6_1 ≤ (wrap64 ((wrap64 (x6_1 + x7_2)) + 1))
            ·rw [if_pos c10] at H
             have c10b0 := eq_true c10
             have c10b1 : decide (x6_1 ≤ (wrap64 ((wrap64 (x6_1 + x7_2)) + 1))) = true := decide_eq_true c10
             by_cases c11 : (wrap64 ((wrap64 (x6_1 + x7_2)) + 1)) ≤ (a0.size : Int)
             ·rw [if_pos c11] at H
              have c11b0 := eq_true c11
              have c11b1 : decide ((wrap64 ((wrap64 (x6_1 + x7_2)) + 1)) ≤ (a0.size : Int)) = true := decide_eq_true c11
              replace H := Option.bind_eq_some_iff.mp H
              obtain ⟨t692, A120, H⟩ := H
              try dsimp only at H
              have A12 := am A120
              clear A120
              by_cases c13 : t692 > 0
              ·rw [if_pos c13] at H
               have c13b0 : decide (0 < t692) = true := decide_eq_true c13
               clear c13
               have H' := am H
               clear H
               go_wp2_with (go_at_call 52; (with_reducible refine (reredosref07_kind.calls k2 (a0.extract (x6_1 : Int).toNat ((wrap64 ((wrap64 (x6_1 + x7_2)) + 1)) : Int).toNat) t692 _ A12.out).mono ?_); rintro e w' ⟨rfl, ⟨nd, rfl⟩⟩)
               go_roundg k2
               case measure => have := HK1.out; have := HK2.out; omega
               case rel => exact ⟨(wrap64 (x7_2 + 1)), yS, H', ⟨by have := HK1.out; have := HK2.out; omega⟩, ⟨rB HO_5⟩, ⟨(kL HB)⟩⟩
              ·rw [if_neg c13] at H
               have c13b0 : decide (0 < t692) = false := decide_eq_false c13
               clear c13
               have H' := am H
               clear H
               go_wp2_with (go_at_call 52; (with_reducible refine (reredosref07_kind.calls k2 (a0.extract (x6_1 : Int).toNat ((wrap64 ((wrap64 (x6_1 + x7_2)) + 1)) : Int).toNat) t692 _ A12.out).mono ?_); rintro e w' ⟨rfl, ⟨nd, rfl⟩⟩)
               go_meet
               case rel => exact ⟨_, (x7_2), yS, H', ⟨by have := HK1.out; have := HK2.out; first | omega | exact Nat.le_refl _⟩, ⟨rB HO_5⟩, ⟨(kL HB)⟩⟩
             ·rw [if_neg c11] at H
              exact absurd H (by simp)
            ·rw [if_neg c10] at H
             exact absurd H (by simp)
           ·rw [if_neg c9] at H
            exact absurd H (by simp)
          ·rw [if_neg c8] at H
           have c8b0 : decide ((wrap64 (x6_1 + x7_2)) < (a0.size : Int)) = false := decide_eq_false c8
           clear c8
           (first | rw [c8b0] | (simp only [i64_w, i32_w]; rw [c8b0]) | skip)
           have H' := am H
           clear H
           go_wp2
           go_meet
           case rel => exact ⟨_, (x7_2), yS, H', ⟨by have := HK1.out; have := HK2.out; first | omega | exact Nat.le_refl _⟩, ⟨rB HO_5⟩, ⟨(kL HB)⟩⟩
       case rest =>
        clear HC7
        try clear c1
        try clear c2
        try clear c2b0
        try clear c2b1
        try clear p2
        try clear c3
        try clear c3b0
        try clear c4
        try clear c4b0
        try clear p5
        try clear q5
        try clear hx5
        try clear c6
        try clear c6b0
        try clear c6b1
        try clear p6
        try clear c8
        try clear c8b0
        try clear c9
        try clear c9b0
        try clear c9b1
        try clear c10
        try clear c10b0
        try clear c10b1
        try clear c11
        try clear c11b0
        try clear c11b1
        try clear c13
        try clear c13b0
        try clear p2
        try clear p5
        try clear p6
        try clear q5
        obtain ⟨kq, x7_6, rfl, HA, HJ6, HO_5, HB⟩ := hcut
        cases kq with
        | zero => exact absurd HA.out (by simp [reredosref07_Lex.j2])
        | succ kj6 =>
         have H := HA.out
         clear HA
         simp only [reredosref07_Lex.j2] at H
         by_cases c14 : 0 ≤ x6_1
         ·rw [if_pos c14] at H
          have c14b0 := eq_true c14
          have c14b1 : decide (0 ≤ x6_1) = true := decide_eq_true c14
          clear c14
          by_cases c15 : x6_1 ≤ (wrap64 (x6_1 + x7_6))
          ·rw [if_pos c15] at H
           have c15b0 := eq_true c15
           have c15b1 : decide (x6_1 ≤ (wrap64 (x6_1 + x7_6))) = true := decide_eq_true c15
           by_cases c16 : (wrap64 (x6_1 + x7_6)) ≤ (a0.size : Int)
           ·rw [if_pos c16] at H
            have c16b0 := eq_true c16
            have c16b1 : decide ((wrap64 (x6_1 + x7_6)) ≤ (a0.size : Int)) = true := decide_eq_true c16
            replace H := Option.bind_eq_some_iff.mp H
            obtain ⟨⟨t693, t694⟩, A170, H⟩ := H
            try dsimp only at H
            have A17 := am A170
            clear A170
            by_cases c18 : x7_6 = 0
            ·rw [if_pos c18] at H
             have c18b0 := eT c18
             have c18b1 := nF c18
             clear c18
             simp only [Option.some.injEq, Prod.mk.injEq] at H
             obtain ⟨rfl, rfl, rfl⟩ := H
             go_wp2_with ((with_reducible refine gC 53 rfl ?_); refine gL (some 51) Try.func53 #[.string (a0.extract (x6_1 : Int).toNat ((wrap64 (x6_1 + x7_6)) : Int).toNat)] ?_; (with_reducible refine (reredosref07_Number.calls kj6 (a0.extract (x6_1 : Int).toNat ((wrap64 (x6_1 + x7_6)) : Int).toNat) t693 t694 _ A17.out).mono ?_); rintro e w' ⟨rfl, ⟨nd, rfl⟩⟩; refine ⟨_, rfl, ?_⟩)
             go_ret3
             exact ⟨_, yE, by first | exact Kd.R_nil _ _ _ _ _ | exact Kd.N_nil _ _ _ _ _ | exact Kd.V_nil _ _ _ _ _ | exact Kd.Q_nil _ _ _ _ _ | exact Kd.S_nil _ _ _ _ _, (kL HB)⟩
            ·rw [if_neg c18] at H
             have c18b0 := eF c18
             have c18b1 := nT c18
             replace H := Option.bind_eq_some_iff.mp H
             obtain ⟨t695, A190, H⟩ := H
             try dsimp only at H
             have A19 := am A190
             clear A190
             by_cases c20 : t695 = 1
             ·rw [if_pos c20] at H
              have c20b0 := eT c20
              have c20b1 := nF c20
              clear c20
              by_cases c21 : t694 = true
              ·subst c21
               rw [if_pos rfl] at H
               replace H := Option.bind_eq_some_iff.mp H
               obtain ⟨t696, A220, H⟩ := H
               try dsimp only at H
               have A22 := am A220
               clear A220
               by_cases c23 : x5_1.length < 4398046511104
               ·rw [if_pos c23] at H
                have LMc23 := am c23
                clear c23
                obtain ⟨y697, hy697⟩ : ∃ y_ : List (S71), y_ = (x5_1 ++ [(⟨t696, a0.extract (x6_1 : Int).toNat ((wrap64 (x6_1 + x7_6)) : Int).toNat, x6_1⟩ : S71)]) := ⟨_, rfl⟩
                replace H : (reredosref07_Lex.l0 kj6 a0 y697 (wrap64 (x6_1 + x7_6))) = some (r1, r2, r3) := by first | (rw [hy697]; with_reducible exact H) | (have H2_ := (Option.bind_some _ _).symm.trans H; rw [hy697]; with_reducible exact H2_) | (have H2_ := (Option.bind_some _ _).symm.trans H; with_reducible exact H2_) | with_reducible exact H | (rw [hy697]; exact H) | exact H
                have Ny697 := am hy697
                clear hy697
                have H' := am H
                clear H
                go_wp2_with (first | ((with_reducible refine gC 53 rfl ?_); refine gL (some 51) Try.func53 #[.string (a0.extract (x6_1 : Int).toNat ((wrap64 (x6_1 + x7_6)) : Int).toNat)] ?_; (with_reducible refine (reredosref07_Number.calls kj6 (a0.extract (x6_1 : Int).toNat ((wrap64 (x6_1 + x7_6)) : Int).toNat) t693 true _ A17.out).mono ?_); rintro e w' ⟨rfl, ⟨nd, rfl⟩⟩; refine ⟨_, rfl, ?_⟩) | (go_at_call 52; (with_reducible refine (reredosref07_kind.calls kj6 (a0.extract (x6_1 : Int).toNat ((wrap64 (x6_1 + x7_6)) : Int).toNat) t695 _ A19.out).mono ?_); rintro e w' ⟨rfl, ⟨nd, rfl⟩⟩) | ((with_reducible refine gC 52 rfl ?_); refine gL (some 68) Try.func52 #[.string (a0.extract (x6_1 : Int).toNat ((wrap64 (x6_1 + x7_6)) : Int).toNat)] ?_; (with_reducible refine (reredosref07_kind.calls kj6 (a0.extract (x6_1 : Int).toNat ((wrap64 (x6_1 + x7_6)) : Int).toNat) t696 _ A22.out).mono ?_); rintro e w' ⟨rfl, ⟨nd, rfl⟩⟩; refine ⟨_, rfl, ?_⟩) | ((with_reducible refine gate_builtin (b := .append) (xs := #[.tmp 66, .tmp 72]) rfl ?_); at_builtin; refine Kd.R_append k71 (w0 := w) w.heap.size rfl (.tmp 66) (.tmp 72) 46 71 (.agg #[(.int .i64 0), (.string ⟨#[]⟩), (.int .i64 0)]) 32 rfl Try.underlying46 info71 rfl (by decide) (by omega) u5 x5_1 (⟨t696, a0.extract (x6_1 : Int).toNat ((wrap64 (x6_1 + x7_6)) : Int).toNat, x6_1⟩ : S71) [.int .i64 t696, .string (a0.extract (x6_1 : Int).toNat ((wrap64 (x6_1 + x7_6)) : Int).toNat), .int .i64 x6_1] (fun _ => True) (fun _ => False) rfl rfl ?aP (fun _ hk => hk.elim) ?aF ?aO ?aB ?aS ?aL ?_; (case aP => exact k71_mkM _ _ _ (⟨t696, a0.extract (x6_1 : Int).toNat ((wrap64 (x6_1 + x7_6)) : Int).toNat, x6_1⟩ : S71)); (case aB => exact (kL HB)); (case aF => exact (fun _ _ => trivial)); (case aO => exact (rB HO_5)); (case aS => exact (below_size (kL HB))); (case aL => have := LMc23.out; omega); intro v698 w24 ho hb hg hat; rw [← Ny697.out] at ho; have n0_ := am hb; have n1_ := am (ho); clear HB; clear HO_5; have HB := n0_; have HO699 := n1_; clear n0_ n1_; clear ho hb hg hat))
                go_roundg kj6
                case measure => have := HK1.out; have := HJ6.out; omega
                case rel => exact ⟨(y697), (wrap64 (x6_1 + x7_6)), yS, H', ⟨by have := HK1.out; have := HJ6.out; omega⟩, ⟨rB HO699⟩, ⟨(kL HB)⟩⟩
               ·rw [if_neg c23] at H
                exact absurd H (by simp)
              ·replace c21 := Bool.eq_false_iff.mpr c21
               subst c21
               rw [if_neg (show ¬ (false = true) by decide)] at H
               simp only [Option.some.injEq, Prod.mk.injEq] at H
               obtain ⟨rfl, rfl, rfl⟩ := H
               go_wp2_with (first | ((with_reducible refine gC 53 rfl ?_); refine gL (some 51) Try.func53 #[.string (a0.extract (x6_1 : Int).toNat ((wrap64 (x6_1 + x7_6)) : Int).toNat)] ?_; (with_reducible refine (reredosref07_Number.calls kj6 (a0.extract (x6_1 : Int).toNat ((wrap64 (x6_1 + x7_6)) : Int).toNat) t693 false _ A17.out).mono ?_); rintro e w' ⟨rfl, ⟨nd, rfl⟩⟩; refine ⟨_, rfl, ?_⟩) | (go_at_call 52; (with_reducible refine (reredosref07_kind.calls kj6 (a0.extract (x6_1 : Int).toNat ((wrap64 (x6_1 + x7_6)) : Int).toNat) t695 _ A19.out).mono ?_); rintro e w' ⟨rfl, ⟨nd, rfl⟩⟩))
               go_ret3
               exact ⟨_, yE, by first | exact Kd.R_nil _ _ _ _ _ | exact Kd.N_nil _ _ _ _ _ | exact Kd.V_nil _ _ _ _ _ | exact Kd.Q_nil _ _ _ _ _ | exact Kd.S_nil _ _ _ _ _, (kL HB)⟩
             ·rw [if_neg c20] at H
              have c20b0 := eF c20
              have c20b1 := nT c20
              replace H := Option.bind_eq_some_iff.mp H
              obtain ⟨t700, A250, H⟩ := H
              try dsimp only at H
              have A25 := am A250
              clear A250
              by_cases c26 : x5_1.length < 4398046511104
              ·rw [if_pos c26] at H
               have LMc26 := am c26
               clear c26
               obtain ⟨y701, hy701⟩ : ∃ y_ : List (S71), y_ = (x5_1 ++ [(⟨t700, a0.extract (x6_1 : Int).toNat ((wrap64 (x6_1 + x7_6)) : Int).toNat, x6_1⟩ : S71)]) := ⟨_, rfl⟩
               replace H : (reredosref07_Lex.l0 kj6 a0 y701 (wrap64 (x6_1 + x7_6))) = some (r1, r2, r3) := by first | (rw [hy701]; with_reducible exact H) | (have H2_ := (Option.bind_some _ _).symm.trans H; rw [hy701]; with_reducible exact H2_) | (have H2_ := (Option.bind_some _ _).symm.trans H; with_reducible exact H2_) | with_reducible exact H | (rw [hy701]; exact H) | exact H
               have Ny701 := am hy701
               clear hy701
               have H' := am H
               clear H
               go_wp2_with (first | ((with_reducible refine gC 53 rfl ?_); refine gL (some 51) Try.func53 #[.string (a0.extract (x6_1 : Int).toNat ((wrap64 (x6_1 + x7_6)) : Int).toNat)] ?_; (with_reducible refine (reredosref07_Number.calls kj6 (a0.extract (x6_1 : Int).toNat ((wrap64 (x6_1 + x7_6)) : Int).toNat) t693 t694 _ A17.out).mono ?_); rintro e w' ⟨rfl, ⟨nd, rfl⟩⟩; refine ⟨_, rfl, ?_⟩) | (go_at_call 52; (with_reducible refine (reredosref07_kind.calls kj6 (a0.extract (x6_1 : Int).toNat ((wrap64 (x6_1 + x7_6)) : Int).toNat) t695 _ A19.out).mono ?_); rintro e w' ⟨rfl, ⟨nd, rfl⟩⟩) | ((with_reducible refine gC 52 rfl ?_); refine gL (some 68) Try.func52 #[.string (a0.extract (x6_1 : Int).toNat ((wrap64 (x6_1 + x7_6)) : Int).toNat)] ?_; (with_reducible refine (reredosref07_kind.calls kj6 (a0.extract (x6_1 : Int).toNat ((wrap64 (x6_1 + x7_6)) : Int).toNat) t700 _ A25.out).mono ?_); rintro e w' ⟨rfl, ⟨nd, rfl⟩⟩; refine ⟨_, rfl, ?_⟩) | ((with_reducible refine gate_builtin (b := .append) (xs := #[.tmp 66, .tmp 72]) rfl ?_); at_builtin; refine Kd.R_append k71 (w0 := w) w.heap.size rfl (.tmp 66) (.tmp 72) 46 71 (.agg #[(.int .i64 0), (.string ⟨#[]⟩), (.int .i64 0)]) 32 rfl Try.underlying46 info71 rfl (by decide) (by omega) u5 x5_1 (⟨t700, a0.extract (x6_1 : Int).toNat ((wrap64 (x6_1 + x7_6)) : Int).toNat, x6_1⟩ : S71) [.int .i64 t700, .string (a0.extract (x6_1 : Int).toNat ((wrap64 (x6_1 + x7_6)) : Int).toNat), .int .i64 x6_1] (fun _ => True) (fun _ => False) rfl rfl ?aP (fun _ hk => hk.elim) ?aF ?aO ?aB ?aS ?aL ?_; (case aP => exact k71_mkM _ _ _ (⟨t700, a0.extract (x6_1 : Int).toNat ((wrap64 (x6_1 + x7_6)) : Int).toNat, x6_1⟩ : S71)); (case aB => exact (kL HB)); (case aF => exact (fun _ _ => trivial)); (case aO => exact (rB HO_5)); (case aS => exact (below_size (kL HB))); (case aL => have := LMc26.out; omega); intro v702 w27 ho hb hg hat; rw [← Ny701.out] at ho; have n0_ := am hb; have n1_ := am (ho); clear HB; clear HO_5; have HB := n0_; have HO703 := n1_; clear n0_ n1_; clear ho hb hg hat))
               go_roundg kj6
               case measure => have := HK1.out; have := HJ6.out; omega
               case rel => exact ⟨(y701), (wrap64 (x6_1 + x7_6)), yS, H', ⟨by have := HK1.out; have := HJ6.out; omega⟩, ⟨rB HO703⟩, ⟨(kL HB)⟩⟩
              ·rw [if_neg c26] at H
               exact absurd H (by simp)
           ·rw [if_neg c16] at H
            exact absurd H (by simp)
          ·rw [if_neg c15] at H
           exact absurd H (by simp)
         ·rw [if_neg c14] at H
          exact absurd H (by simp)
     ·rw [if_neg c4] at H
      exact absurd H (by simp)
    ·rw [if_neg c3] at H
     have c3b0 : decide (x6_1 < (a0.size : Int)) = false := decide_eq_false c3
     clear c3
     simp only [Option.some.injEq, Prod.mk.injEq] at H
     obtain ⟨rfl, rfl, rfl⟩ := H
     go_wp2
     go_ret3
     exact ⟨_, yE, rB HO_5, (kL HB)⟩
end Go.Proofs.Ytdelccahgchadaa.P
end
section
namespace Go.Proofs.Ytdelccahgchadaa.P
open Go.RowKit Go.Proofs.YtdelccahgchadaaW.PrintWords Go.Proofs.YtdelccahgchadaaW.PrintLast Go.Proofs.YtdelccahgchadaaW.PrintMore
attribute [local go_sem] max2_int min2_int max_two min_two max_three min_three max_four min_four   
set_option linter.unusedVariables false
set_option linter.unusedSimpArgs false
def IsS83 (w0 W : World) (g : Nat) (f0 : List (S71)) (f1 : Int) (f2 : Int) (f3 : Bool) : Prop := ∃ A0 c0, W.heap[g]? = some (.cells #[.slice A0 f0.length c0, .int .i64 f1, .int .i64 f2, .bool f3] 83 (0, 0)) ∧ w0.heap.size ≤ g ∧ Kd.C k71 w0 A0 f0.length f0
theorem IsS83.grown {w0 W : World} {g : Nat} {f0 : List (S71)} {f1 : Int} {f2 : Int} {f3 : Bool} {W1 : World} {row : Option Nat} (h : IsS83 w0 W g f0 f1 f2 f3) (hw : W.grownBy W1 row) (hne : some g ≠ row) : IsS83 w0 W1 g f0 f1 f2 f3 := by
  obtain ⟨A0, c0, hb, hg, hr0⟩ := h
  exact ⟨A0, c0, blk_grown hb hw hne, hg, hr0⟩
theorem IsS83.own_neN {w0 W : World} {g : Nat} {f0 : List (S71)} {f1 : Int} {f2 : Int} {f3 : Bool} {α : Type} {d : Kd α} {e : Nat} {base : Nat} {ok : Nat → Prop} {v : Value} {xs : List α} (h : IsS83 w0 W g f0 f1 f2 f3) (ho : Kd.N d e W base ok v xs) (ht : e ≠ 83) : some g ≠ v.ownBlock := by
  obtain ⟨A0, c0, hb, hg, hr0⟩ := h
  exact Kd.N_ne ho hb ht
theorem IsS83.fresh {w0 W : World} {g : Nat} {f0 : List (S71)} {f1 : Int} {f2 : Int} {f3 : Bool} (h : IsS83 w0 W g f0 f1 f2 f3) : ∀ k, W.heap.size ≤ k → k ≠ g := by
  obtain ⟨A0, c0, hb, hg, hr0⟩ := h
  exact Kd.freshB hb
theorem IsS83.kept {w0 W : World} {g : Nat} {f0 : List (S71)} {f1 : Int} {f2 : Int} {f3 : Bool} {W1 : World} {S : Nat → Prop} (h : IsS83 w0 W g f0 f1 f2 f3) (hk : Kept W W1 S) (hne : ¬ S g) : IsS83 w0 W1 g f0 f1 f2 f3 := by
  obtain ⟨A0, c0, hb, hg, hr0⟩ := h
  exact ⟨A0, c0, blk_kept hb hk hne, hg, hr0⟩
theorem IsS83.below {w0 W : World} {g : Nat} {f0 : List (S71)} {f1 : Int} {f2 : Int} {f3 : Bool} {W1 : World} (h : IsS83 w0 W g f0 f1 f2 f3) (hw : Below W.heap.size W W1) : IsS83 w0 W1 g f0 f1 f2 f3 := h.grown (grown_of_below hw none) (by simp)
theorem IsS83.alloc {w0 W : World} {g : Nat} {f0 : List (S71)} {f1 : Int} {f2 : Int} {f3 : Bool} (h : IsS83 w0 W g f0 f1 f2 f3) (o : Obj) : IsS83 w0 (W.alloc o) g f0 f1 f2 f3 := h.below (below_alloc (Below.refl _ _) o)
theorem IsS83.drewN {w0 W : World} {g : Nat} {f0 : List (S71)} {f1 : Int} {f2 : Int} {f3 : Bool} (h : IsS83 w0 W g f0 f1 f2 f3) (m : Nat) : IsS83 w0 (W.drewN m) g f0 f1 f2 f3 := h
theorem IsS83.drew {w0 W : World} {g : Nat} {f0 : List (S71)} {f1 : Int} {f2 : Int} {f3 : Bool} (h : IsS83 w0 W g f0 f1 f2 f3) : IsS83 w0 W.drew g f0 f1 f2 f3 := h
theorem IsS83.at_ {w0 W : World} {g : Nat} {f0 : List (S71)} {f1 : Int} {f2 : Int} {f3 : Bool} {w' : World} {m : Nat} (hq : W.drewN m = w') (h : IsS83 w0 W g f0 f1 f2 f3) : IsS83 w0 w' g f0 f1 f2 f3 := by subst hq; exact IsS83.drewN h m
theorem IsS83.apart {w0 W : World} {g : Nat} {f0 : List (S71)} {f1 : Int} {f2 : Int} {f3 : Bool} {α : Type} {d : Kd α} {e : Nat} {base : Nat} {ok : Nat → Prop} {v : Value} {xs : List α} (h : IsS83 w0 W g f0 f1 f2 f3) (ho : d.R e W base ok v xs) (ht : ∀ q, q ∈ e :: d.E → q ≠ 83) : d.R e W base (fun k => ok k ∧ k ≠ g) v xs := by
  obtain ⟨A0, c0, hb, hg, hr0⟩ := h
  exact Kd.R_types ho hb ht
theorem IsS83.own_ne {w0 W : World} {g : Nat} {f0 : List (S71)} {f1 : Int} {f2 : Int} {f3 : Bool} {α : Type} {d : Kd α} {e : Nat} {base : Nat} {ok : Nat → Prop} {v : Value} {xs : List α} (h : IsS83 w0 W g f0 f1 f2 f3) (ho : d.R e W base ok v xs) (ht : e ≠ 83) : some g ≠ v.ownBlock := by
  obtain ⟨A0, c0, hb, hg, hr0⟩ := h
  exact Kd.R_ne ho hb ht
theorem IsS83.apartQ {w0 W : World} {g : Nat} {f0 : List (S71)} {f1 : Int} {f2 : Int} {f3 : Bool} {α : Type} {d : Kd α} {e : Nat} {base : Nat} {ok : Nat → Prop} {v : Value} {xs : List α} (h : IsS83 w0 W g f0 f1 f2 f3) (ho : d.Q e W base ok v xs) (ht : ∀ q, q ∈ e :: d.E → q ≠ 83) : d.Q e W base (fun k => ok k ∧ k ≠ g) v xs := by
  obtain ⟨A0, c0, hb, hg, hr0⟩ := h
  exact Kd.Q_types ho hb ht
theorem IsS83.own_neQ {w0 W : World} {g : Nat} {f0 : List (S71)} {f1 : Int} {f2 : Int} {f3 : Bool} {α : Type} {d : Kd α} {e : Nat} {base : Nat} {ok : Nat → Prop} {v : Value} {xs : List α} (h : IsS83 w0 W g f0 f1 f2 f3) (ho : d.Q e W base ok v xs) (ht : e ≠ 83) : some g ≠ v.ownBlock := by
  obtain ⟨A0, c0, hb, hg, hr0⟩ := h
  exact Kd.Q_ne ho hb ht
theorem IsS83.apartS {w0 W : World} {g : Nat} {f0 : List (S71)} {f1 : Int} {f2 : Int} {f3 : Bool} {α : Type} {d : Kd α} {e : Nat} {base : Nat} {ok : Nat → Prop} {v : Value} {xs : List α} (h : IsS83 w0 W g f0 f1 f2 f3) (ho : d.S e W base ok v xs) (ht : ∀ q, q ∈ e :: d.E → q ≠ 83) : d.S e W base (fun k => ok k ∧ k ≠ g) v xs := by
  obtain ⟨A0, c0, hb, hg, hr0⟩ := h
  exact Kd.S_types ho hb ht
theorem IsS83.own_neS {w0 W : World} {g : Nat} {f0 : List (S71)} {f1 : Int} {f2 : Int} {f3 : Bool} {α : Type} {d : Kd α} {e : Nat} {base : Nat} {ok : Nat → Prop} {v : Value} {xs : List α} (h : IsS83 w0 W g f0 f1 f2 f3) (ho : d.S e W base ok v xs) (ht : e ≠ 83) : some g ≠ v.ownBlock := by
  obtain ⟨A0, c0, hb, hg, hr0⟩ := h
  exact Kd.S_ne ho hb ht
theorem IsS83.lt {w0 W : World} {g : Nat} {f0 : List (S71)} {f1 : Int} {f2 : Int} {f3 : Bool} (h : IsS83 w0 W g f0 f1 f2 f3) : g < W.heap.size := by
  obtain ⟨A0, c0, hb, hg, hr0⟩ := h
  exact blk_lt hb
theorem IsS83.ge {w0 W : World} {g : Nat} {f0 : List (S71)} {f1 : Int} {f2 : Int} {f3 : Bool} (h : IsS83 w0 W g f0 f1 f2 f3) : w0.heap.size ≤ g := by
  obtain ⟨A0, c0, hb, hg, hr0⟩ := h
  exact hg
theorem IsS83.ne_blk {w0 W : World} {g : Nat} {f0 : List (S71)} {f1 : Int} {f2 : Int} {f3 : Bool} {a : Nat} {cs : Array Value} {t : TypeId} {fr : Nat × Nat} (h : IsS83 w0 W g f0 f1 f2 f3) (hb2 : W.heap[a]? = some (.cells cs t fr)) (ht : t ≠ 83) : g ≠ a := by
  obtain ⟨A0, c0, hb, hg, hr0⟩ := h
  rintro rfl
  rw [hb] at hb2
  injection hb2 with hb2
  injection hb2 with _ ht2
  exact ht ht2.symm
theorem IsS83.far {w0 W : World} {g : Nat} {f0 : List (S71)} {f1 : Int} {f2 : Int} {f3 : Bool} {p : Addr} (h : IsS83 w0 W g f0 f1 f2 f3) (hne : g ≠ p.block) (u : Value) : IsS83 w0 (W.setCell p u) g f0 f1 f2 f3 := by
  obtain ⟨A0, c0, hb, hg, hr0⟩ := h
  exact ⟨A0, c0, blk_far hb hne u, hg, hr0⟩
theorem cellS83_0 {W : World} {g : Nat} {A0 : Option Addr} {c0 : Nat} {f0 : List (S71)} {f1 : Int} {f2 : Int} {f3 : Bool} (h : W.heap[g]? = some (.cells #[.slice A0 f0.length c0, .int .i64 f1, .int .i64 f2, .bool f3] 83 (0, 0))) : W.cell? ⟨g, 0, none⟩ = some (.slice A0 f0.length c0) := (blk_cell h 0).trans rfl
theorem cellS83_1 {W : World} {g : Nat} {A0 : Option Addr} {c0 : Nat} {f0 : List (S71)} {f1 : Int} {f2 : Int} {f3 : Bool} (h : W.heap[g]? = some (.cells #[.slice A0 f0.length c0, .int .i64 f1, .int .i64 f2, .bool f3] 83 (0, 0))) : W.cell? ⟨g, 1, none⟩ = some (.int .i64 f1) := (blk_cell h 1).trans rfl
theorem IsS83.set_1 {w0 W : World} {g : Nat} {f0 : List (S71)} {f1 : Int} {f2 : Int} {f3 : Bool} (h : IsS83 w0 W g f0 f1 f2 f3) (x : Int) : IsS83 w0 (W.setCell ⟨g, 1, none⟩ (.int .i64 x)) g f0 x f2 f3 := by
  obtain ⟨A0, c0, hb, hg, hr0⟩ := h
  exact ⟨A0, c0, by simpa using blk_set hb 1 (.int .i64 x), hg, hr0⟩
theorem cellS83_2 {W : World} {g : Nat} {A0 : Option Addr} {c0 : Nat} {f0 : List (S71)} {f1 : Int} {f2 : Int} {f3 : Bool} (h : W.heap[g]? = some (.cells #[.slice A0 f0.length c0, .int .i64 f1, .int .i64 f2, .bool f3] 83 (0, 0))) : W.cell? ⟨g, 2, none⟩ = some (.int .i64 f2) := (blk_cell h 2).trans rfl
theorem IsS83.set_2 {w0 W : World} {g : Nat} {f0 : List (S71)} {f1 : Int} {f2 : Int} {f3 : Bool} (h : IsS83 w0 W g f0 f1 f2 f3) (x : Int) : IsS83 w0 (W.setCell ⟨g, 2, none⟩ (.int .i64 x)) g f0 f1 x f3 := by
  obtain ⟨A0, c0, hb, hg, hr0⟩ := h
  exact ⟨A0, c0, by simpa using blk_set hb 2 (.int .i64 x), hg, hr0⟩
theorem cellS83_3 {W : World} {g : Nat} {A0 : Option Addr} {c0 : Nat} {f0 : List (S71)} {f1 : Int} {f2 : Int} {f3 : Bool} (h : W.heap[g]? = some (.cells #[.slice A0 f0.length c0, .int .i64 f1, .int .i64 f2, .bool f3] 83 (0, 0))) : W.cell? ⟨g, 3, none⟩ = some (.bool f3) := (blk_cell h 3).trans rfl
theorem IsS83.set_3 {w0 W : World} {g : Nat} {f0 : List (S71)} {f1 : Int} {f2 : Int} {f3 : Bool} (h : IsS83 w0 W g f0 f1 f2 f3) (x : Bool) : IsS83 w0 (W.setCell ⟨g, 3, none⟩ (.bool x)) g f0 f1 f2 x := by
  obtain ⟨A0, c0, hb, hg, hr0⟩ := h
  exact ⟨A0, c0, by simpa using blk_set hb 3 (.bool x), hg, hr0⟩
theorem IsS83.new (w0 W : World) (A0 : Option Addr) (c0 : Nat) (f0 : List (S71)) (f1 : Int) (f2 : Int) (f3 : Bool) (hB : Below w0.heap.size w0 W) (hr0 : Kd.C k71 w0 A0 f0.length f0) : IsS83 w0 (W.alloc (.cells #[.slice A0 f0.length c0, .int .i64 f1, .int .i64 f2, .bool f3] 83)) W.heap.size f0 f1 f2 f3 := ⟨A0, c0, by simpa using heap_alloc_new W _, hB.size, hr0⟩
theorem IsS83.look {w0 W : World} {g : Nat} {f0 : List (S71)} {f1 : Int} {f2 : Int} {f3 : Bool} (h : IsS83 w0 W g f0 f1 f2 f3) : ∃ A0 c0, Kd.C k71 w0 A0 f0.length f0 ∧ W.cell? ⟨g, 0, none⟩ = some (.slice A0 f0.length c0) ∧ W.cell? ⟨g, 1, none⟩ = some (.int .i64 f1) ∧ W.cell? ⟨g, 2, none⟩ = some (.int .i64 f2) ∧ W.cell? ⟨g, 3, none⟩ = some (.bool f3) ∧ W.frozen? ⟨g, 1, none⟩ = false ∧ W.frozen? ⟨g, 2, none⟩ = false ∧ W.frozen? ⟨g, 3, none⟩ = false := by
  obtain ⟨A0, c0, hG, hg, hs0⟩ := h
  exact ⟨A0, c0, hs0, cellS83_0 hG, cellS83_1 hG, cellS83_2 hG, cellS83_3 hG, blk_frozen hG 1, blk_frozen hG 2, blk_frozen hG 3⟩
theorem yI {p : Prop} (h : p := by repeat (first | (with_reducible first | exact HI0.out | (refine @IsS83.set_1 _ _ _ _ ?_ _ _ ?_ _; rotate_left) | (refine @IsS83.set_2 _ _ _ _ _ ?_ _ ?_ _; rotate_left) | (refine @IsS83.set_3 _ _ _ _ _ _ ?_ ?_ _; rotate_left) | apply IsS83.alloc | apply IsS83.drew | apply IsS83.drewN | refine IsS83.far ?_ (Aside0.out (by assumption)) _) | exact HI0.out)) : p := h
theorem kLI {w w1 W : World} (h : Aside0 (Below w.heap.size w w1)) (u : LMv w w1 W := by repeat (with_reducible first | exact lmR _ _ | apply lmA | apply lmN | apply lmD | refine lmS ?_ (IsS83.ge HI0.out) | refine lmS ?_ (Aside0.out (by assumption)))) : Below w.heap.size w W := u h.out
end Go.Proofs.Ytdelccahgchadaa.P
end
section
namespace Go.Proofs.Ytdelccahgchadaa.P
open Go.RowKit Go.Proofs.YtdelccahgchadaaW.PrintWords Go.Proofs.YtdelccahgchadaaW.PrintLast Go.Proofs.YtdelccahgchadaaW.PrintMore
attribute [local go_sem] max2_int min2_int max_two min_two max_three min_three max_four min_four   
set_option linter.unusedVariables false
set_option linter.unusedSimpArgs false
def api_Node_64.f  (a1 : Int) : Option ((List (S25))) := if a1 < 0 then (none) else (if (wrap64 a1) > 0 then (if 0 ≤ (wrap64 a1) then (if ([] : List (S25)).length + (wrap64 a1 : Int).toNat < 1759218604441 then ((some (([] : List (S25)) ++ List.replicate (wrap64 a1 : Int).toNat z25 : List (S25))).bind fun y101 => (if 0 ≤ (y101.length : Int) then (some (y101.take (0 : Int).toNat)) else (none))) else (none)) else (none)) else (some ([] : List (S25))))
set_option maxHeartbeats 8000000 in
set_option maxRecDepth 100000 in
theorem api_Node_64.calls  (a1 : Int) (r : List (S25)) (w : World) (h : api_Node_64.f a1 = some r) :
  Calls Try.prog 64 #[.slice none 0 0, .int .i64 a1] w fun e w' => ∃ v0_ : Value, e = .returned (v0_) ∧ Kd.S k25 25 w' w.heap.size (fun _ => True) v0_ r ∧ Below w.heap.size w w' := by
 have HB := am (Below.refl w.heap.size w)
 have H : (if a1 < 0 then (none) else (if (wrap64 a1) > 0 then (if 0 ≤ (wrap64 a1) then (if ([] : List (S25)).length + (wrap64 a1 : Int).toNat < 1759218604441 then ((some (([] : List (S25)) ++ List.replicate (wrap64 a1 : Int).toNat z25 : List (S25))).bind fun y101 => (if 0 ≤ (y101.length : Int) then (some (y101.take (0 : Int).toNat)) else (none))) else (none)) else (none)) else (some ([] : List (S25))))) = some r := h
 clear h
 by_cases c3 : a1 < 0
 ·rw [if_pos c3] at H
  exact absurd H (by simp)
 ·rw [if_neg c3] at H
  have c3b0 : decide (a1 < 0) = false := decide_eq_false c3
  clear c3
  by_cases c4 : (wrap64 a1) > 0
  ·rw [if_pos c4] at H
   have c4b0 : decide (0 < (wrap64 a1)) = true := decide_eq_true c4
   clear c4
   obtain ⟨ji5, hji5⟩ : ∃ j_ : Int, (wrap64 a1) = j_ := ⟨_, rfl⟩
   replace H : (if 0 ≤ (ji5) then (if ([] : List (S25)).length + (ji5 : Int).toNat < 1759218604441 then ((some (([] : List (S25)) ++ List.replicate (ji5 : Int).toNat z25 : List (S25))).bind fun y101 => (if 0 ≤ (y101.length : Int) then (some (y101.take (0 : Int).toNat)) else (none))) else (none)) else (none)) = some r := by first | (rw [hji5] at H; exact H) | (simp only [hji5] at H ⊢; exact H)
   (try rw [hji5] at c4b0)
   have hji5w : (IntKind.i64.wrap a1) = ji5 := (i64_w _).trans hji5
   by_cases c6 : 0 ≤ (ji5)
   ·rw [if_pos c6] at H
    have c6b0 := eq_true c6
    have c6b1 : decide (0 ≤ (ji5)) = true := decide_eq_true c6
    clear c6
    by_cases c7 : ([] : List (S25)).length + (ji5 : Int).toNat < 1759218604441
    ·rw [if_pos c7] at H
     have LMc7 := am c7
     clear c7
     obtain ⟨y101, hy101⟩ : ∃ y_ : List (S25), y_ = (([] : List (S25)) ++ List.replicate (ji5 : Int).toNat z25) := ⟨_, rfl⟩
     replace H : (if 0 ≤ (y101.length : Int) then (some (y101.take (0 : Int).toNat)) else (none)) = some r := by first | (rw [hy101]; with_reducible exact H) | (have H2_ := (Option.bind_some _ _).symm.trans H; rw [hy101]; with_reducible exact H2_) | (have H2_ := (Option.bind_some _ _).symm.trans H; with_reducible exact H2_) | with_reducible exact H | (rw [hy101]; exact H) | exact H
     have Ny101 := am hy101
     clear hy101
     by_cases c8 : 0 ≤ (y101.length : Int)
     ·rw [if_pos c8] at H
      have c8b0 := eq_true c8
      have c8b1 : decide (0 ≤ (y101.length : Int)) = true := decide_eq_true c8
      clear c8
      obtain ⟨y104, hy104⟩ : ∃ y_ : List (S25), y_ = (y101.take (0 : Int).toNat) := ⟨_, rfl⟩
      replace H : (some y104) = some r := by first | (rw [hy104]; with_reducible exact H) | (have H2_ := (Option.bind_some _ _).symm.trans H; rw [hy104]; with_reducible exact H2_) | (have H2_ := (Option.bind_some _ _).symm.trans H; with_reducible exact H2_) | with_reducible exact H | (rw [hy104]; exact H) | exact H
      have Ny104 := am hy104
      clear hy104
      obtain rfl := Option.some.inj H
      go_enter Try.func64, Try.ntmps64
      go_wp2_with (at_builtin; refine Kd.S_append_zeros k25 (w0 := w) w.heap.size rfl (.tmp 20) (.tmp 21) 22 3 25 (.agg #[(.int .i64 0), (.string ⟨#[]⟩), (.string ⟨#[]⟩), (.string ⟨#[]⟩), (.slice none 0 0)]) 80 rfl Try.underlying22 Try.underlying3 info25 rfl (by decide) (by omega) (.slice none 0 0) ([] : List (S25)) z25 (ji5 : Int) (fun _ => True) rfl rfl (k25_mkM _ _ _ z25 (Kd.R_nil _ _ _ _ _)) ?aF ?aO (of_decide_eq_true yY) ?aB ?aS ?aL ?_; (case aB => exact (kL HB)); (case aF => exact (fun _ _ => trivial)); (case aO => exact ((Kd.S_nil _ _ _ _ _))); (case aS => exact (below_size (kL HB))); (case aL => have := LMc7.out; omega); intro v102 w9 ho hb hg hat; rw [← Ny101.out] at ho; have n0_ := am hb; have n1_ := am (ho); clear HB; have HB := n0_; have HO103 := n1_; clear n0_ n1_; clear ho hb hg hat; obtain ⟨Ao10, co10, eo10⟩ := Kd.S_slice HO103.out; subst eo10; have q11 : (0 : Int) ≤ ((y101.length : Int) : Int) := of_decide_eq_true yY; obtain ⟨i011, hi011, _, hsz11, _⟩ := info_parts info25; have hcut11 := cut_to (P := Try.prog) 22 25 .i64 Try.underlying22 hi011 Ao10 y101.length co10 0 (by omega) q11 (Kd.S_reads' HO103.out).2.1; have hr11 := Kd.S_take (m := (0 : Int).toNat) HO103.out (by omega); have hy11 : y104.length = (0 : Int).toNat := (by rw [Ny104.out, List.length_take]; omega); rw [← Ny104.out] at hr11; rw [← hy11] at hr11 hcut11; clear hy11 hi011 hsz11 HO103; have HO106 := am hr11; clear hr11; replace q11 := eq_true q11)
      go_ret
      exact ⟨_, by first | rfl | (simp [errW_none, errW_some] <;> rfl) | (simp only [← hji5]; first | rfl | (simp [errW_none, errW_some] <;> rfl)) | (simp [*, errW_none, errW_some] <;> rfl), sB HO106, (kL HB)⟩
     ·rw [if_neg c8] at H
      exact absurd H (by simp)
    ·rw [if_neg c7] at H
     exact absurd H (by simp)
   ·rw [if_neg c6] at H
    exact absurd H (by simp)
  ·rw [if_neg c4] at H
   have c4b0 : decide (0 < (wrap64 a1)) = false := decide_eq_false c4
   clear c4
   obtain rfl := Option.some.inj H
   go_enter Try.func64, Try.ntmps64
   go_wp2
   go_ret
   exact ⟨_, yE, yZ, (kL HB)⟩
mutual
def api_Node_48.l0 : Nat → List (List (S25)) → Int → List (List (S25)) → Int → Int → Option ((List (S25)))
 | 0, _, _, _, _, _ => none
 | k + 1, x0, x3, x9, x10, x11 => if x11 < x10 then (if 0 ≤ x11 then (if x11 < (x9.length : Int) then (if (wrap64 (x3 + ((rd_L4 x9 x11).length : Int))) < 0 then (none) else (api_Node_48.l0 k x0 (wrap64 (x3 + ((rd_L4 x9 x11).length : Int))) x9 x10 (wrap64 (x11 + 1)))) else (none)) else (none)) else ((api_Node_64.f x3).bind fun t108 => (api_Node_48.l1 k t108 x0 (x0.length : Int) 0))
def api_Node_48.l1 : Nat → List (S25) → List (List (S25)) → Int → Int → Option ((List (S25)))
 | 0, _, _, _, _ => none
 | k + 1, x6, x25, x26, x27 => if x27 < x26 then (if 0 ≤ x27 then (if x27 < (x25.length : Int) then (if x6.length + (rd_L4 x25 x27).length < 1759218604441 then (api_Node_48.l1 k (x6 ++ (rd_L4 x25 x27)) x25 x26 (wrap64 (x27 + 1))) else (none)) else (none)) else (none)) else (some x6)
end
def api_Node_48.f (k : Nat) (l0 : List (List (S25))) : Option ((List (S25))) := api_Node_48.l0 k l0 0 l0 (l0.length : Int) 0
theorem api_Node_48.mono_l : ∀ k, (∀ y0 y1 y2 y3 y4, LeO (api_Node_48.l0 k y0 y1 y2 y3 y4) (api_Node_48.l0 (k + 1) y0 y1 y2 y3 y4)) ∧ (∀ y0 y1 y2 y3, LeO (api_Node_48.l1 k y0 y1 y2 y3) (api_Node_48.l1 (k + 1) y0 y1 y2 y3))
 | 0 => ⟨fun _ _ _ _ _ r h => by simp [api_Node_48.l0] at h, fun _ _ _ _ r h => by simp [api_Node_48.l1] at h⟩
 | k + 1 => by
  obtain ⟨ih0, ih1⟩ := api_Node_48.mono_l k
  refine ⟨?_, ?_⟩
  ·intro y0 y1 y2 y3 y4
   unfold api_Node_48.l0
   repeat' first
   | (with_reducible exact ih0 _ _ _ _ _)
   | (with_reducible exact ih1 _ _ _ _)
   | (with_reducible exact LeO.refl _)
   | (with_reducible exact LeO.none _)
   | (with_reducible refine LeO.ite ?_ ?_)
   | (with_reducible refine LeO.bind ?_ (fun _ => ?_))
   | exact ih0 _ _ _ _ _
   | exact ih1 _ _ _ _
   | exact LeO.none _
   | refine LeO.ite ?_ ?_
   | refine LeO.bind ?_ (fun _ => ?_)
  ·intro y0 y1 y2 y3
   unfold api_Node_48.l1
   repeat' first
   | (with_reducible exact ih0 _ _ _ _ _)
   | (with_reducible exact ih1 _ _ _ _)
   | (with_reducible exact LeO.refl _)
   | (with_reducible exact LeO.none _)
   | (with_reducible refine LeO.ite ?_ ?_)
   | (with_reducible refine LeO.bind ?_ (fun _ => ?_))
   | exact ih0 _ _ _ _ _
   | exact ih1 _ _ _ _
   | exact LeO.none _
   | refine LeO.ite ?_ ?_
   | refine LeO.bind ?_ (fun _ => ?_)
theorem api_Node_48.mono : ∀ a0 k, LeO (api_Node_48.f k a0) (api_Node_48.f (k + 1) a0) := by
 intro a0 k
 obtain ⟨ih0, ih1⟩ := api_Node_48.mono_l k
 unfold api_Node_48.f
 repeat' first
   | (with_reducible exact ih0 _ _ _ _ _)
   | (with_reducible exact ih1 _ _ _ _)
   | (with_reducible exact LeO.refl _)
   | (with_reducible exact LeO.none _)
   | (with_reducible refine LeO.ite ?_ ?_)
   | (with_reducible refine LeO.bind ?_ (fun _ => ?_))
   | exact ih0 _ _ _ _ _
   | exact ih1 _ _ _ _
   | exact LeO.none _
   | refine LeO.ite ?_ ?_
   | refine LeO.bind ?_ (fun _ => ?_)
set_option maxHeartbeats 8000000 in
set_option maxRecDepth 100000 in
theorem api_Node_48.calls (k : Nat) (P0_ : Nat → Prop) (A0 : Option Addr) (c0 : Nat) (l0 : List (List (S25))) (r : List (S25)) (w : World) (hs0 : Kd.V (Kd.slice 25 k25) 22 w w.heap.size (fun k_ => P0_ k_) (.slice A0 l0.length c0) l0) (h : api_Node_48.f k l0 = some r) :
  Calls Try.prog 48 #[.slice A0 l0.length c0] w fun e w' => ∃ v0_ : Value, e = .returned (v0_) ∧ Kd.N k25 25 w' w.heap.size (fun k_ => (P0_ k_ ∨ w.heap.size ≤ k_)) v0_ r ∧ Below w.heap.size w w' := by
 have HO0 := am (show Kd.V (Kd.slice 25 k25) 22 w w.heap.size (fun k_ => (P0_ k_ ∨ w.heap.size ≤ k_)) (.slice A0 l0.length c0) l0 from Kd.V_mono hs0 (fun k_ hk => .inl hk))
 have HB := am (Below.refl w.heap.size w)
 have H : (api_Node_48.l0 k l0 0 l0 (l0.length : Int) 0) = some r := h
 clear h
 have H' := am H
 clear H
 go_enter Try.func48, Try.ntmps48
 go_wp2
 go_loopg [3, 11] k (fun kq v3 v11 w' => ∃ (x3_1 : Int) (x11_1 : Int), v3 = .int .i64 x3_1 ∧ v11 = .int .i64 x11_1 ∧ Aside0 (api_Node_48.l0 kq l0 x3_1 l0 (l0.length : Int) x11_1 = some r) ∧ Aside0 (kq ≤ k) ∧ Aside0 (Kd.V (Kd.slice 25 k25) 22 w' w.heap.size (fun k_ => (P0_ k_ ∨ w.heap.size ≤ k_)) (.slice A0 l0.length c0) l0) ∧ Aside0 (Kd.V (Kd.slice 25 k25) 22 w' w.heap.size (fun k_ => (P0_ k_ ∨ w.heap.size ≤ k_)) (.slice A0 l0.length c0) l0) ∧ Aside0 (Below w.heap.size w w'))
 case atStart => exact ⟨(0), (0), yS, yS, H', ⟨Nat.le_refl _⟩, ⟨vB HO0⟩, ⟨vB HO0⟩, ⟨(kL HB)⟩⟩
 case round =>
  clear H'
  obtain ⟨x3_1, x11_1, rfl, rfl, HA, HK1, HO_0, HO_9, HB⟩ := hrel
  cases gk with
  | zero => exact absurd HA.out (by simp [api_Node_48.l0])
  | succ k1 =>
   have H := HA.out
   clear HA
   simp only [api_Node_48.l0] at H
   by_cases c2 : x11_1 < (l0.length : Int)
   ·rw [if_pos c2] at H
    have c2b0 : decide (x11_1 < (l0.length : Int)) = true := decide_eq_true c2
    clear c2
    by_cases c3 : 0 ≤ x11_1
    ·rw [if_pos c3] at H
     have c3b0 : decide (0 ≤ x11_1) = true := decide_eq_true c3
     clear c3
     by_cases c4 : x11_1 < (l0.length : Int)
     ·rw [if_pos c4] at H
      have c4b0 : decide (x11_1 < (l0.length : Int)) = true := decide_eq_true c4
      clear c4
      by_cases c5 : (wrap64 (x3_1 + ((rd_L4 l0 x11_1).length : Int))) < 0
      ·rw [if_pos c5] at H
       exact absurd H (by simp)
      ·rw [if_neg c5] at H
       have c5b0 : decide ((wrap64 (x3_1 + ((rd_L4 l0 x11_1).length : Int))) < 0) = false := decide_eq_false c5
       clear c5
       have H' := am H
       clear H
       have p107 : 0 ≤ (x11_1 : Int) := of_decide_eq_true yY
       have q107 : x11_1 < (l0.length : Int) := of_decide_eq_true yY
       obtain ⟨ad107, A107_0, c107_0, e107, hx107_0, hl107_0, hi107_0⟩ := at_L4 (Kd.V_reads' HO_9.out).2.2 x11_1 p107 q107
       cases e107
       obtain ⟨ce107, hce107, hMe107, hcc107⟩ := Kd.V_get HO_9.out [] x11_1 p107 (by first | exact q107 | exact of_decide_eq_true yY | (have e_ := (Kd.V_reads' HO_9.out).1; omega))
       obtain ⟨ua107_0, uc107_0, rfl, ul107_0, ge107_0⟩ := Kd.FK_slice_open hMe107
       have hv107_0 := hcc107 0 _ rfl
       rw [Nat.add_zero, show ((Kd.slice 25 k25)).sz = 1 from rfl, Nat.mul_one] at hv107_0
       replace hv107_0 := Option.some.inj (hv107_0.symm.trans hx107_0)
       injection hv107_0 with hva_ hvn_ hvc_
       rw [hva_] at ge107_0
       rw [hvc_] at ul107_0
       have HL107_0 := am (show Kd.V k25 25 _ w.heap.size _ _ (rd_L4 l0 x11_1) from Kd.V_mk ul107_0 ge107_0)
       clear hva_ hvn_ hvc_ ge107_0 ul107_0
       clear hcc107 hce107
       have HR107_0 := am hi107_0
       have HC107_0 := am hl107_0
       clear hi107_0 hl107_0
       replace p107 := eq_true p107
       replace q107 := eq_true q107
       go_wp2
       go_roundg k1
       case measure => have := HK1.out; omega
       case rel => exact ⟨(wrap64 (x3_1 + ((rd_L4 l0 x11_1).length : Int))), (wrap64 (x11_1 + 1)), yS, yS, H', ⟨by have := HK1.out; omega⟩, ⟨vB HO_0⟩, ⟨vB HO_9⟩, ⟨(kL HB)⟩⟩
     ·rw [if_neg c4] at H
      exact absurd H (by simp)
    ·rw [if_neg c3] at H
     exact absurd H (by simp)
   ·rw [if_neg c2] at H
    have c2b0 : decide (x11_1 < (l0.length : Int)) = false := decide_eq_false c2
    clear c2
    replace H := Option.bind_eq_some_iff.mp H
    obtain ⟨t108, A60, H⟩ := H
    try dsimp only at H
    have A6 := am A60
    clear A60
    have H' := am H
    clear H
    go_wp2_with ((with_reducible refine gC 64 rfl ?_); refine gL (some 24) Try.func64 #[.slice none 0 0, .int .i64 x3_1] ?_; (with_reducible refine (api_Node_64.calls _ _ _ A6.out).mono ?_); rintro e w7 ⟨v109, rfl, ho0, hb⟩; refine ⟨_, rfl, ?_⟩; replace HO_0 := am (Kd.V_elder' (vB HO_0) (Kd.N_base (Kd.S_N ho0)) hb); replace HO_9 := am (Kd.V_elder' (vB HO_9) (Kd.N_base (Kd.S_N ho0)) hb); have HO110 := am (Kd.N_lower (Kd.N_mono (ok' := fun k_ => (P0_ k_ ∨ w.heap.size ≤ k_)) (Kd.S_N (Kd.S_bound ho0)) (fun k_ hk_ => (.inr (Nat.le_trans (below_size (kL HB)) hk_.2.1)))) (below_size (kL HB))); replace HB := am (below_step (kL HB) hb); (try clear ho0 hb))
    go_loopg [6, 27] k1 (fun kq v6 v27 w' => ∃ (x6_2 : List (S25)) (x27_2 : Int), v27 = .int .i64 x27_2 ∧ Aside0 (api_Node_48.l1 kq x6_2 l0 (l0.length : Int) x27_2 = some r) ∧ Aside0 (kq ≤ k1) ∧ Aside0 (Kd.N k25 25 w' w.heap.size (fun k_ => (P0_ k_ ∨ w.heap.size ≤ k_)) v6 x6_2) ∧ Aside0 (Kd.V (Kd.slice 25 k25) 22 w' w.heap.size (fun k_ => (P0_ k_ ∨ w.heap.size ≤ k_) ∧ some k_ ≠ (v6 : Value).ownBlock) (.slice A0 l0.length c0) l0) ∧ Aside0 (Below w.heap.size w w'))
    case atStart => exact ⟨(t108), (0), yS, H', ⟨Nat.le_refl _⟩, ⟨nB HO110⟩, ⟨vB HO_0⟩, ⟨(kL HB)⟩⟩
    case round =>
     clear H'
     try clear c1
     try clear p1
     try clear q1
     try clear hx1
     try clear c2
     try clear c2b0
     try clear p2
     try clear c3
     try clear c3b0
     try clear c4
     try clear c4b0
     try clear c5
     try clear c5b0
     try clear c6
     try clear p6
     try clear hx107_0
     try clear p107
     try clear q107
     obtain ⟨x6_2, x27_2, rfl, HA, HK2, HO_6, HO_25, HB⟩ := hrel
     cases gk with
     | zero => exact absurd HA.out (by simp [api_Node_48.l1])
     | succ k2 =>
      have H := HA.out
      clear HA
      simp only [api_Node_48.l1] at H
      by_cases c8 : x27_2 < (l0.length : Int)
      ·rw [if_pos c8] at H
       have c8b0 : decide (x27_2 < (l0.length : Int)) = true := decide_eq_true c8
       clear c8
       by_cases c9 : 0 ≤ x27_2
       ·rw [if_pos c9] at H
        have c9b0 : decide (0 ≤ x27_2) = true := decide_eq_true c9
        clear c9
        by_cases c10 : x27_2 < (l0.length : Int)
        ·rw [if_pos c10] at H
         have c10b0 : decide (x27_2 < (l0.length : Int)) = true := decide_eq_true c10
         clear c10
         by_cases c11 : x6_2.length + (rd_L4 l0 x27_2).length < 1759218604441
         ·rw [if_pos c11] at H
          have LMc11 := am c11
          clear c11
          obtain ⟨y112, hy112⟩ : ∃ y_ : List (S25), y_ = (x6_2 ++ (rd_L4 l0 x27_2)) := ⟨_, rfl⟩
          replace H : (api_Node_48.l1 k2 y112 l0 (l0.length : Int) (wrap64 (x27_2 + 1))) = some r := by first | (rw [hy112]; with_reducible exact H) | (have H2_ := (Option.bind_some _ _).symm.trans H; rw [hy112]; with_reducible exact H2_) | (have H2_ := (Option.bind_some _ _).symm.trans H; with_reducible exact H2_) | with_reducible exact H | (rw [hy112]; exact H) | exact H
          have Ny112 := am hy112
          clear hy112
          have H' := am H
          clear H
          have p111 : 0 ≤ (x27_2 : Int) := of_decide_eq_true yY
          have q111 : x27_2 < (l0.length : Int) := of_decide_eq_true yY
          obtain ⟨ad111, A111_0, c111_0, e111, hx111_0, hl111_0, hi111_0⟩ := at_L4 (Kd.V_reads' HO_25.out).2.2 x27_2 p111 q111
          cases e111
          obtain ⟨ce111, hce111, hMe111, hcc111⟩ := Kd.V_get HO_25.out [] x27_2 p111 (by first | exact q111 | exact of_decide_eq_true yY | (have e_ := (Kd.V_reads' HO_25.out).1; omega))
          obtain ⟨ua111_0, uc111_0, rfl, ul111_0, ge111_0⟩ := Kd.FK_slice_open hMe111
          have hv111_0 := hcc111 0 _ rfl
          rw [Nat.add_zero, show ((Kd.slice 25 k25)).sz = 1 from rfl, Nat.mul_one] at hv111_0
          replace hv111_0 := Option.some.inj (hv111_0.symm.trans hx111_0)
          injection hv111_0 with hva_ hvn_ hvc_
          rw [hva_] at ge111_0
          rw [hvc_] at ul111_0
          have HL111_0 := am (show Kd.V k25 25 _ w.heap.size _ _ (rd_L4 l0 x27_2) from Kd.V_mk ul111_0 ge111_0)
          clear hva_ hvn_ hvc_ ge111_0 ul111_0
          clear hcc111 hce111
          have HR111_0 := am hi111_0
          have HC111_0 := am hl111_0
          clear hi111_0 hl111_0
          replace p111 := eq_true p111
          replace q111 := eq_true q111
          go_wp2_with ((with_reducible refine gate_builtin (b := .append) (xs := #[.tmp 31, .tmp 32]) rfl ?_); at_builtin; refine Kd.N_append_rows k25 (w0 := w) w.heap.size rfl (.tmp 31) (.tmp 32) 22 25 (.agg #[(.int .i64 0), (.string ⟨#[]⟩), (.string ⟨#[]⟩), (.string ⟨#[]⟩), (.slice none 0 0)]) 80 rfl Try.underlying22 info25 rfl (by decide) (by omega) u6 x6_2 (rd_L4 l0 x27_2) _ _ _ (fun k_ => (P0_ k_ ∨ w.heap.size ≤ k_)) (fun k_ => ((fun k_ => (P0_ k_ ∨ w.heap.size ≤ k_))) k_ ∧ some k_ ≠ (u6 : Value).ownBlock) rfl rfl ?aO ?aR (fun _ hk => hk) ?aF ?aB ?aS ?aL ?_; (case aR => exact (by skip; exact Kd.V_F (Kd.V_mono (ok' := (fun k_ => ((fun k_ => (P0_ k_ ∨ w.heap.size ≤ k_))) k_ ∧ some k_ ≠ (u6 : Value).ownBlock)) (HL111_0.out) (fun k_ hk => ⟨hk.1, hk.2⟩)))); (case aB => exact (kL HB)); (case aF => exact (fun k_ hk => (.inr (Nat.le_trans (below_size (kL HB)) hk)))); (case aO => exact (nB HO_6)); (case aS => exact (below_size (kL HB))); (case aL => have := LMc11.out; omega); intro v113 w12 ho hb hg hat; rw [← Ny112.out] at ho; have n0_ := am (Kd.V_afterv (ok := (fun k_ => (P0_ k_ ∨ w.heap.size ≤ k_))) (vB HO_25) hg hat); have n1_ := am (Kd.V_afterv (ok := (fun k_ => (P0_ k_ ∨ w.heap.size ≤ k_))) (vB HL111_0) hg hat); have n2_ := am hb; have n3_ := am (ho); clear HO_25; clear HL111_0; clear HB; clear HO_6; have HO_25 := n0_; have HL111_0 := n1_; have HB := n2_; have HO114 := n3_; clear n0_ n1_ n2_ n3_; clear ho hb hg hat)
          go_roundg k2
          case measure => have := HK1.out; have := HK2.out; omega
          case rel => exact ⟨(y112), (wrap64 (x27_2 + 1)), yS, H', ⟨by have := HK1.out; have := HK2.out; omega⟩, ⟨nB HO114⟩, ⟨vB HO_25⟩, ⟨(kL HB)⟩⟩
         ·rw [if_neg c11] at H
          exact absurd H (by simp)
        ·rw [if_neg c10] at H
         exact absurd H (by simp)
       ·rw [if_neg c9] at H
        exact absurd H (by simp)
      ·rw [if_neg c8] at H
       have c8b0 : decide (x27_2 < (l0.length : Int)) = false := decide_eq_false c8
       clear c8
       obtain rfl := Option.some.inj H
       go_wp2
       go_ret
       exact ⟨_, yE, nB HO_6, (kL HB)⟩
end Go.Proofs.Ytdelccahgchadaa.P
end
section
namespace Go.Proofs.Ytdelccahgchadaa.P
open Go.RowKit Go.Proofs.Ytdelccahgchadaa Go.Proofs.YtdelccahgchadaaW.PrintWords Go.Proofs.YtdelccahgchadaaW.PrintLast Go.Proofs.YtdelccahgchadaaW.PrintMore
set_option linter.unusedVariables false
set_option linter.unusedSimpArgs false
theorem tok_field_0 (a b c : Value) (w : World) : (Instr.field 71 (.agg #[a, b, c]) 0).run Try.prog w = .ok a w := by kernel_rfl
theorem tok_field_1 (a b c : Value) (w : World) : (Instr.field 71 (.agg #[a, b, c]) 1).run Try.prog w = .ok b w := by kernel_rfl
theorem tok_field_2 (a b c : Value) (w : World) : (Instr.field 71 (.agg #[a, b, c]) 2).run Try.prog w = .ok c w := by kernel_rfl
attribute [go_sem] tok_field_0 tok_field_1 tok_field_2
def parse_parser_look.f (s0_0 : List S71) (s0_1 s0_2 : Int) (s0_3 : Bool) (a1 : Int) : Option (Int × ByteArray × Int × Int × Int × Bool) :=
 if s0_3 = true then some (0, ⟨#[]⟩, s0_2, s0_1, s0_2, s0_3)
 else if wrap64 (s0_1 + a1) ≥ (s0_0.length : Int) then some (0, ⟨#[]⟩, s0_2, s0_1, s0_2, s0_3)
 else if 0 ≤ wrap64 (s0_1 + a1) then some ((rd_T71 s0_0 (wrap64 (s0_1 + a1))).f0, (rd_T71 s0_0 (wrap64 (s0_1 + a1))).f1, (rd_T71 s0_0 (wrap64 (s0_1 + a1))).f2, s0_1, s0_2, s0_3) else none
set_option maxRecDepth 100000 in
set_option maxHeartbeats 4000000 in
theorem look1 (g : Nat) (s0_0 : List S71) (s0_1 s0_2 : Int) (a1 : Int) (w0 w : World) (hI : IsS83 w0 w g s0_0 s0_1 s0_2 true) (hB : Below w0.heap.size w0 w) :
  Calls Try.prog 67 #[.pointer (some ⟨g, 0, none⟩), .int .i64 a1] w fun e w' => e = .returned (.agg #[.int .i64 0, .string ⟨#[]⟩, .int .i64 s0_2]) ∧ IsS83 w0 w' g s0_0 s0_1 s0_2 true ∧ Below w0.heap.size w0 w' ∧ KeepBut w w' g none := by
 have hlt := IsS83.lt hI
 have HI := Aside0.mk (IsS83.alloc hI (Obj.cells #[Value.int IntKind.i64 0, Value.string { data := #[] }, Value.int IntKind.i64 0] 71))
 have HK := Aside0.mk (keep_alloc (KeepBut.refl w g none) (Obj.cells #[Value.int IntKind.i64 0, Value.string { data := #[] }, Value.int IntKind.i64 0] 71))
 have HB := Aside0.mk (below_alloc hB (Obj.cells #[Value.int IntKind.i64 0, Value.string { data := #[] }, Value.int IntKind.i64 0] 71))
 have GE := Aside0.mk hB.size
 have hbk : (w.alloc (Obj.cells #[Value.int IntKind.i64 0, Value.string { data := #[] }, Value.int IntKind.i64 0] 71)).heap[w.heap.size]? = some (.cells #[.int .i64 0, .string ⟨#[]⟩, .int .i64 0] 71 (0, 0)) := by simpa using heap_alloc_new w _
 have BK := Aside0.mk hbk
 have NE := Aside0.mk (Nat.ne_of_lt hlt)
 clear hI hB hbk
 go_enter Try.func67, Try.ntmps67
 go_wp2_with fail
 obtain ⟨W, hW⟩ : ∃ W, W = w.alloc (Obj.cells #[Value.int IntKind.i64 0, Value.string { data := #[] }, Value.int IntKind.i64 0] 71) := ⟨_, rfl⟩
 rw [← hW] at HI HK HB BK ⊢
 obtain ⟨g4, hg4⟩ : ∃ g4, g4 = w.heap.size := ⟨_, rfl⟩
 rw [← hg4] at BK NE GE hlt ⊢
 have GW : Aside0 (w.heap.size ≤ g4) := ⟨Nat.le_of_eq hg4.symm⟩
 clear hW hg4 hlt
 obtain ⟨A0, c0, hb, hg, hr⟩ := HI.out
 have HR := Aside0.mk hr
 have x0 := cellS83_0 hb
 have x1 := cellS83_1 hb
 have x2 := cellS83_2 hb
 have x3 := cellS83_3 hb
 have z0 : W.cell? ⟨g4, 0, none⟩ = some (.int .i64 0) := (blk_cell BK.out 0).trans rfl
 have z1 : W.cell? ⟨g4, 1, none⟩ = some (.string ⟨#[]⟩) := (blk_cell BK.out 1).trans rfl
 have z2 : W.cell? ⟨g4, 2, none⟩ = some (.int .i64 0) := (blk_cell BK.out 2).trans rfl
 have f0 := blk_frozen BK.out 0
 have f1 := blk_frozen BK.out 1
 have f2 := blk_frozen BK.out 2
 clear hb hg hr
 go_quiet (fail)
 go_wp2
 obtain ⟨W3, hW3⟩ : ∃ W3, W3 = ((((W.drewN nq).setCell ⟨g4, 0, none⟩ (.int .i64 0)).setCell ⟨g4, 1, none⟩ (.string ⟨#[]⟩)).setCell ⟨g4, 2, none⟩ (.int .i64 s0_2)) := ⟨_, rfl⟩
 have b3 : W3.heap[g4]? = some (.cells #[.int .i64 0, .string ⟨#[]⟩, .int .i64 s0_2] 71 (0, 0)) := by
  rw [hW3]
  refine blk_put (cs := #[.int .i64 0, .string ⟨#[]⟩, .int .i64 0]) ?_ 2 _ rfl
  refine blk_put (cs := #[.int .i64 0, .string ⟨#[]⟩, .int .i64 0]) ?_ 1 _ rfl
  refine blk_put (cs := #[.int .i64 0, .string ⟨#[]⟩, .int .i64 0]) ?_ 0 _ rfl
  refine blk_drewN ?_ _
  exact BK.out
 have i3 : IsS83 w0 W3 g s0_0 s0_1 s0_2 true := by rw [hW3]; exact IsS83.far (IsS83.far (IsS83.far (IsS83.drewN HI.out _) NE.out _) NE.out _) NE.out _
 have l3 : Below w0.heap.size w0 W3 := by rw [hW3]; exact below_set (below_set (below_set (pw_below_drewN HB.out _) GE.out) GE.out) GE.out
 have k3 : KeepBut w W3 g none := by rw [hW3]; exact keep_far (keep_far (keep_far (keep_drewN HK.out _) GW.out _) GW.out _) GW.out _
 rw [← hW3]
 clear hW3
 have y0 : W3.cell? ⟨g4, 0, none⟩ = some (.int .i64 0) := (blk_cell b3 0).trans rfl
 have y1 : W3.cell? ⟨g4, 1, none⟩ = some (.string ⟨#[]⟩) := (blk_cell b3 1).trans rfl
 have y2 : W3.cell? ⟨g4, 2, none⟩ = some (.int .i64 s0_2) := (blk_cell b3 2).trans rfl
 refine bodyPost_ret (v := .agg #[.int .i64 0, .string ⟨#[]⟩, .int .i64 s0_2]) (by simp [results, Try.results67, go_sem, y0, y1, y2]) rfl ⟨rfl, i3, l3, k3⟩
set_option maxRecDepth 100000 in
set_option maxHeartbeats 4000000 in
theorem look2 (g : Nat) (s0_0 : List S71) (s0_1 s0_2 : Int) (a1 : Int) (w0 w : World) (hI : IsS83 w0 w g s0_0 s0_1 s0_2 false) (hB : Below w0.heap.size w0 w) (hge : (s0_0.length : Int) ≤ wrap64 (s0_1 + a1)) :
  Calls Try.prog 67 #[.pointer (some ⟨g, 0, none⟩), .int .i64 a1] w fun e w' => e = .returned (.agg #[.int .i64 0, .string ⟨#[]⟩, .int .i64 s0_2]) ∧ IsS83 w0 w' g s0_0 s0_1 s0_2 false ∧ Below w0.heap.size w0 w' ∧ KeepBut w w' g none := by
 have hlt := IsS83.lt hI
 have HI := Aside0.mk (IsS83.alloc hI (Obj.cells #[Value.int IntKind.i64 0, Value.string { data := #[] }, Value.int IntKind.i64 0] 71))
 have HK := Aside0.mk (keep_alloc (KeepBut.refl w g none) (Obj.cells #[Value.int IntKind.i64 0, Value.string { data := #[] }, Value.int IntKind.i64 0] 71))
 have HB := Aside0.mk (below_alloc hB (Obj.cells #[Value.int IntKind.i64 0, Value.string { data := #[] }, Value.int IntKind.i64 0] 71))
 have GE := Aside0.mk hB.size
 have hbk : (w.alloc (Obj.cells #[Value.int IntKind.i64 0, Value.string { data := #[] }, Value.int IntKind.i64 0] 71)).heap[w.heap.size]? = some (.cells #[.int .i64 0, .string ⟨#[]⟩, .int .i64 0] 71 (0, 0)) := by simpa using heap_alloc_new w _
 have BK := Aside0.mk hbk
 have NE := Aside0.mk (Nat.ne_of_lt hlt)
 clear hI hB hbk
 go_enter Try.func67, Try.ntmps67
 go_wp2_with fail
 obtain ⟨W, hW⟩ : ∃ W, W = w.alloc (Obj.cells #[Value.int IntKind.i64 0, Value.string { data := #[] }, Value.int IntKind.i64 0] 71) := ⟨_, rfl⟩
 rw [← hW] at HI HK HB BK ⊢
 obtain ⟨g4, hg4⟩ : ∃ g4, g4 = w.heap.size := ⟨_, rfl⟩
 rw [← hg4] at BK NE GE hlt ⊢
 have GW : Aside0 (w.heap.size ≤ g4) := ⟨Nat.le_of_eq hg4.symm⟩
 clear hW hg4 hlt
 obtain ⟨A0, c0, hb, hg, hr⟩ := HI.out
 have HR := Aside0.mk hr
 have x0 := cellS83_0 hb
 have x1 := cellS83_1 hb
 have x2 := cellS83_2 hb
 have x3 := cellS83_3 hb
 have z0 : W.cell? ⟨g4, 0, none⟩ = some (.int .i64 0) := (blk_cell BK.out 0).trans rfl
 have z1 : W.cell? ⟨g4, 1, none⟩ = some (.string ⟨#[]⟩) := (blk_cell BK.out 1).trans rfl
 have z2 : W.cell? ⟨g4, 2, none⟩ = some (.int .i64 0) := (blk_cell BK.out 2).trans rfl
 have f0 := blk_frozen BK.out 0
 have f1 := blk_frozen BK.out 1
 have f2 := blk_frozen BK.out 2
 clear hb hg hr
 have hd : decide ((s0_0.length : Int) ≤ wrap64 (s0_1 + a1)) = true := decide_eq_true hge
 have hd2 : decide ((s0_0.length : Int) ≤ IntKind.i64.wrap (s0_1 + a1)) = true := by rw [i64_w]; exact hd
 clear hge
 go_quiet (fail)
 go_wp2
 obtain ⟨W3, hW3⟩ : ∃ W3, W3 = ((((W.drewN nq).setCell ⟨g4, 0, none⟩ (.int .i64 0)).setCell ⟨g4, 1, none⟩ (.string ⟨#[]⟩)).setCell ⟨g4, 2, none⟩ (.int .i64 s0_2)) := ⟨_, rfl⟩
 have b3 : W3.heap[g4]? = some (.cells #[.int .i64 0, .string ⟨#[]⟩, .int .i64 s0_2] 71 (0, 0)) := by
  rw [hW3]
  refine blk_put (cs := #[.int .i64 0, .string ⟨#[]⟩, .int .i64 0]) ?_ 2 _ rfl
  refine blk_put (cs := #[.int .i64 0, .string ⟨#[]⟩, .int .i64 0]) ?_ 1 _ rfl
  refine blk_put (cs := #[.int .i64 0, .string ⟨#[]⟩, .int .i64 0]) ?_ 0 _ rfl
  refine blk_drewN ?_ _
  exact BK.out
 have i3 : IsS83 w0 W3 g s0_0 s0_1 s0_2 false := by rw [hW3]; exact IsS83.far (IsS83.far (IsS83.far (IsS83.drewN HI.out _) NE.out _) NE.out _) NE.out _
 have l3 : Below w0.heap.size w0 W3 := by rw [hW3]; exact below_set (below_set (below_set (pw_below_drewN HB.out _) GE.out) GE.out) GE.out
 have k3 : KeepBut w W3 g none := by rw [hW3]; exact keep_far (keep_far (keep_far (keep_drewN HK.out _) GW.out _) GW.out _) GW.out _
 rw [← hW3]
 clear hW3
 have y0 : W3.cell? ⟨g4, 0, none⟩ = some (.int .i64 0) := (blk_cell b3 0).trans rfl
 have y1 : W3.cell? ⟨g4, 1, none⟩ = some (.string ⟨#[]⟩) := (blk_cell b3 1).trans rfl
 have y2 : W3.cell? ⟨g4, 2, none⟩ = some (.int .i64 s0_2) := (blk_cell b3 2).trans rfl
 refine bodyPost_ret (v := .agg #[.int .i64 0, .string ⟨#[]⟩, .int .i64 s0_2]) (by simp [results, Try.results67, go_sem, y0, y1, y2]) rfl ⟨rfl, i3, l3, k3⟩
set_option maxRecDepth 100000 in
set_option maxHeartbeats 4000000 in
theorem look3 (g : Nat) (s0_0 : List S71) (s0_1 s0_2 : Int) (a1 : Int) (w0 w : World) (hI : IsS83 w0 w g s0_0 s0_1 s0_2 false) (hB : Below w0.heap.size w0 w) (h0 : 0 ≤ wrap64 (s0_1 + a1)) (hlt0 : wrap64 (s0_1 + a1) < (s0_0.length : Int)) :
  Calls Try.prog 67 #[.pointer (some ⟨g, 0, none⟩), .int .i64 a1] w fun e w' => e = .returned (.agg #[.int .i64 (rd_T71 s0_0 (wrap64 (s0_1 + a1))).f0, .string (rd_T71 s0_0 (wrap64 (s0_1 + a1))).f1, .int .i64 (rd_T71 s0_0 (wrap64 (s0_1 + a1))).f2]) ∧ IsS83 w0 w' g s0_0 s0_1 s0_2 false ∧ Below w0.heap.size w0 w' ∧ KeepBut w w' g none := by
 have hlt := IsS83.lt hI
 have HI := Aside0.mk (IsS83.alloc hI (Obj.cells #[Value.int IntKind.i64 0, Value.string { data := #[] }, Value.int IntKind.i64 0] 71))
 have HK := Aside0.mk (keep_alloc (KeepBut.refl w g none) (Obj.cells #[Value.int IntKind.i64 0, Value.string { data := #[] }, Value.int IntKind.i64 0] 71))
 have HB := Aside0.mk (below_alloc hB (Obj.cells #[Value.int IntKind.i64 0, Value.string { data := #[] }, Value.int IntKind.i64 0] 71))
 have GE := Aside0.mk hB.size
 have hbk : (w.alloc (Obj.cells #[Value.int IntKind.i64 0, Value.string { data := #[] }, Value.int IntKind.i64 0] 71)).heap[w.heap.size]? = some (.cells #[.int .i64 0, .string ⟨#[]⟩, .int .i64 0] 71 (0, 0)) := by simpa using heap_alloc_new w _
 have BK := Aside0.mk hbk
 have NE := Aside0.mk (Nat.ne_of_lt hlt)
 clear hI hB hbk
 go_enter Try.func67, Try.ntmps67
 go_wp2_with fail
 obtain ⟨W, hW⟩ : ∃ W, W = w.alloc (Obj.cells #[Value.int IntKind.i64 0, Value.string { data := #[] }, Value.int IntKind.i64 0] 71) := ⟨_, rfl⟩
 rw [← hW] at HI HK HB BK ⊢
 obtain ⟨g4, hg4⟩ : ∃ g4, g4 = w.heap.size := ⟨_, rfl⟩
 rw [← hg4] at BK NE GE hlt ⊢
 have GW : Aside0 (w.heap.size ≤ g4) := ⟨Nat.le_of_eq hg4.symm⟩
 clear hW hg4 hlt
 obtain ⟨A0, c0, hb, hg, hr⟩ := HI.out
 have HR := Aside0.mk hr
 have x0 := cellS83_0 hb
 have x1 := cellS83_1 hb
 have x2 := cellS83_2 hb
 have x3 := cellS83_3 hb
 have z0 : W.cell? ⟨g4, 0, none⟩ = some (.int .i64 0) := (blk_cell BK.out 0).trans rfl
 have z1 : W.cell? ⟨g4, 1, none⟩ = some (.string ⟨#[]⟩) := (blk_cell BK.out 1).trans rfl
 have z2 : W.cell? ⟨g4, 2, none⟩ = some (.int .i64 0) := (blk_cell BK.out 2).trans rfl
 have f0 := blk_frozen BK.out 0
 have f1 := blk_frozen BK.out 1
 have f2 := blk_frozen BK.out 2
 clear hb hg hr
 have hd : decide ((s0_0.length : Int) ≤ wrap64 (s0_1 + a1)) = false := decide_eq_false (by omega)
 have hd2 : decide ((s0_0.length : Int) ≤ IntKind.i64.wrap (s0_1 + a1)) = false := by rw [i64_w]; exact hd
 have q0 := eq_true h0
 have q1 := eq_true hlt0
 obtain ⟨ad, ea, e0, e1, e2⟩ := at_T71 (Kd.C_below HR.out HB.out) (wrap64 (s0_1 + a1)) h0 hlt0
 cases ea
 go_quiet (fail)
 go_wp2_with fail
 go_region
 go_wp2
 obtain ⟨v0, hv0⟩ : ∃ v0, v0 = (rd_T71 s0_0 (wrap64 (s0_1 + a1))).f0 := ⟨_, rfl⟩
 obtain ⟨v1, hv1⟩ : ∃ v1, v1 = (rd_T71 s0_0 (wrap64 (s0_1 + a1))).f1 := ⟨_, rfl⟩
 obtain ⟨v2, hv2⟩ : ∃ v2, v2 = (rd_T71 s0_0 (wrap64 (s0_1 + a1))).f2 := ⟨_, rfl⟩
 rw [← hv0, ← hv1, ← hv2]
 obtain ⟨W3, hW3⟩ : ∃ W3, W3 = ((((W.drewN (nq + 1)).setCell ⟨g4, 0, none⟩ (.int .i64 v0)).setCell ⟨g4, 1, none⟩ (.string v1)).setCell ⟨g4, 2, none⟩ (.int .i64 v2)) := ⟨_, rfl⟩
 have b3 : W3.heap[g4]? = some (.cells #[.int .i64 v0, .string v1, .int .i64 v2] 71 (0, 0)) := by
  rw [hW3]
  refine blk_put (cs := #[.int .i64 v0, .string v1, .int .i64 0]) ?_ 2 _ rfl
  refine blk_put (cs := #[.int .i64 v0, .string ⟨#[]⟩, .int .i64 0]) ?_ 1 _ rfl
  refine blk_put (cs := #[.int .i64 0, .string ⟨#[]⟩, .int .i64 0]) ?_ 0 _ rfl
  refine blk_drewN ?_ _
  exact BK.out
 have i3 : IsS83 w0 W3 g s0_0 s0_1 s0_2 false := by rw [hW3]; exact IsS83.far (IsS83.far (IsS83.far (IsS83.drewN HI.out _) NE.out _) NE.out _) NE.out _
 have l3 : Below w0.heap.size w0 W3 := by rw [hW3]; exact below_set (below_set (below_set (pw_below_drewN HB.out _) GE.out) GE.out) GE.out
 have k3 : KeepBut w W3 g none := by rw [hW3]; exact keep_far (keep_far (keep_far (keep_drewN HK.out _) GW.out _) GW.out _) GW.out _
 rw [← hW3]
 clear hW3
 have y0 : W3.cell? ⟨g4, 0, none⟩ = some (.int .i64 v0) := (blk_cell b3 0).trans rfl
 have y1 : W3.cell? ⟨g4, 1, none⟩ = some (.string v1) := (blk_cell b3 1).trans rfl
 have y2 : W3.cell? ⟨g4, 2, none⟩ = some (.int .i64 v2) := (blk_cell b3 2).trans rfl
 refine bodyPost_ret (v := .agg #[.int .i64 v0, .string v1, .int .i64 v2]) (by simp [results, Try.results67, go_sem, y0, y1, y2]) rfl ⟨by rw [hv0, hv1, hv2], i3, l3, k3⟩
theorem parse_parser_look.calls (g : Nat) (s0_0 : List S71) (s0_1 s0_2 : Int) (s0_3 : Bool) (a1 : Int) (r1 : Int) (r2 : ByteArray) (r3 r4 r5 : Int) (r6 : Bool) (w0 w : World) (hI : IsS83 w0 w g s0_0 s0_1 s0_2 s0_3) (hB : Below w0.heap.size w0 w) (h : parse_parser_look.f s0_0 s0_1 s0_2 s0_3 a1 = some (r1, r2, r3, r4, r5, r6)) :
  Calls Try.prog 67 #[.pointer (some ⟨g, 0, none⟩), .int .i64 a1] w fun e w' => e = .returned (.agg #[.int .i64 r1, .string r2, .int .i64 r3]) ∧ IsS83 w0 w' g s0_0 r4 r5 r6 ∧ Below w0.heap.size w0 w' ∧ KeepBut w w' g none := by
 unfold parse_parser_look.f at h
 cases s0_3 with
 | true =>
  rw [if_pos rfl] at h
  simp only [Option.some.injEq, Prod.mk.injEq] at h
  obtain ⟨rfl, rfl, rfl, rfl, rfl, rfl⟩ := h
  exact look1 g s0_0 _ _ a1 w0 w hI hB
 | false =>
  rw [if_neg (by decide)] at h
  by_cases h1 : wrap64 (s0_1 + a1) ≥ (s0_0.length : Int)
  ·rw [if_pos h1] at h
   simp only [Option.some.injEq, Prod.mk.injEq] at h
   obtain ⟨rfl, rfl, rfl, rfl, rfl, rfl⟩ := h
   exact look2 g s0_0 _ _ a1 w0 w hI hB h1
  ·rw [if_neg h1] at h
   by_cases h2 : 0 ≤ wrap64 (s0_1 + a1)
   ·rw [if_pos h2] at h
    simp only [Option.some.injEq, Prod.mk.injEq] at h
    obtain ⟨rfl, rfl, rfl, rfl, rfl, rfl⟩ := h
    exact look3 g s0_0 _ _ a1 w0 w hI hB h2 (Int.not_le.1 h1)
   ·rw [if_neg h2] at h
    cases h
abbrev EX_F := List S71 → Int → Int → Bool → Option (List S25 × Int × Int × Bool)
structure EX_C (EXF : EX_F) : Prop where
 out : ∀ (g : Nat) (s0_0 : List S71) (s0_1 s0_2 : Int) (s0_3 : Bool) (r1 : List S25) (r2 r3 : Int) (r4 : Bool) (w0 w : World) (_ : IsS83 w0 w g s0_0 s0_1 s0_2 s0_3) (_ : Below w0.heap.size w0 w) (_ : EXF s0_0 s0_1 s0_2 s0_3 = some (r1, r2, r3, r4)),
  Calls Try.prog 93 #[.pointer (some ⟨g, 0, none⟩)] w fun e w' => ∃ v0_ : Value, e = .returned (v0_) ∧ Kd.N k25 25 w' w.heap.size (fun k_ => (w.heap.size ≤ k_)) v0_ r1 ∧ IsS83 w0 w' g s0_0 r2 r3 r4 ∧ Below w0.heap.size w0 w' ∧ KeepBut w w' g none
end Go.Proofs.Ytdelccahgchadaa.P
end
