/- Walks, written by a program out of the translation. -/
import Derived.Test.YtphonhplgholmaaPx0
import Derived.Test.YtphonhplgholmaaPx2
import Derived.Test.YtphonhplgholmaaPx10
import Derived.Test.YtphonhplgholmaaPx11
import Derived.Test.YtphonhplgholmaaGBase
import Derived.Test.YtphonhplgholmaaGBudget
namespace Go.Proofs.Ytphonhplgholmaa.P
open Go.RowKit Go.Proofs.YtphonhplgholmaaW.PrintWords Go.Proofs.YtphonhplgholmaaW.PrintLast Go.Proofs.YtphonhplgholmaaW.PrintMore
attribute [local go_sem] max2_int min2_int max_two min_two max_three min_three max_four min_four   -- for this text's walks alone
set_option linter.unusedVariables false
set_option linter.unusedSimpArgs false

attribute [local go_sem high] eqA26
/-! ### reredoslaw18_CostParts: function 8 -/
mutual
def reredoslaw18_CostParts.l0 : Nat → Int → Bool → Int → Int → Int → Int → Option (Bool)
 | 0, _, _, _, _, _, _ => none
 | k + 1, x0, x5, x6, x8, x346000, x346001 => if x8 < (wrap64 (x0)) then ((cost_Node.f).bind fun bt346 => ((cost_Size.f k x6 (([x6] : List Int))).bind fun bt351 => ((budget_Sum.f (([(⟨x346000, x346001⟩ : S26), (⟨bt346.1, bt346.2⟩ : S26), (⟨bt351.1, bt351.2⟩ : S26)] : List (S26)))).bind fun bt356 => (reredoslaw18_CostParts.l0 k x0 x5 x6 (wrap64 (x8 + 1)) bt356.1 bt356.2)))) else ((cost_Size.f k 1 (([x6] : List Int))).bind fun bt361 => ((budget_Sum.f (([(⟨x346000, x346001⟩ : S26), (⟨bt361.1, bt361.2⟩ : S26)] : List (S26)))).bind fun bt366 => (reredoslaw18_CostParts.l1 k x0 x5 x6 1 x346000 x346001 bt366.1 bt366.2)))
def reredoslaw18_CostParts.l1 : Nat → Int → Bool → Int → Int → Int → Int → Int → Int → Option (Bool)
 | 0, _, _, _, _, _, _, _, _ => none
 | k + 1, x0, x5, x6, x10, x346000, x346001, x369000, x369001 => if x10 < x6 then ((cost_Size.f k 1 (([1, 1] : List Int))).bind fun bt372 => ((budget_Sum.f (([(⟨x369000, x369001⟩ : S26), (⟨bt372.1, bt372.2⟩ : S26)] : List (S26)))).bind fun bt377 => (reredoslaw18_CostParts.l1 k x0 x5 x6 (wrap64 (x10 + 1)) x346000 x346001 bt377.1 bt377.2))) else (if x5 = true then ((cost_Loop.f k (wrap64 (x0)) (wrap64 (x0)) x6 false).bind fun bt379 => (if (bt379.1 == x346000 && (bt379.2 == x346001)) = true then ((cost_Loop.f k (wrap64 (x0)) (wrap64 (x0)) x6 true).bind fun bt381 => (if (bt381.1 == x369000 && (bt381.2 == x369001)) = true then ((cost_Loop.f k (wrap64 (x0)) 300 x6 false).bind fun bt383 => (some (bt383.1 == x346000 && (bt383.2 == x346001)))) else (none))) else (none))) else (none))
end
def reredoslaw18_CostParts.f (k : Nat) (a0 : Int) (a1 : Int) : Option (Bool) := (reredoslaw18_shown.f k).bind fun t344 => (reredoslaw18_CostParts.l0 k a0 t344 (wrap64 (Int.tmod a1 4097)) 0 0 0)
theorem reredoslaw18_CostParts.mono_l : ∀ k, (∀ y0 y1 y2 y3 y4 y5, LeO (reredoslaw18_CostParts.l0 k y0 y1 y2 y3 y4 y5) (reredoslaw18_CostParts.l0 (k + 1) y0 y1 y2 y3 y4 y5)) ∧ (∀ y0 y1 y2 y3 y4 y5 y6 y7, LeO (reredoslaw18_CostParts.l1 k y0 y1 y2 y3 y4 y5 y6 y7) (reredoslaw18_CostParts.l1 (k + 1) y0 y1 y2 y3 y4 y5 y6 y7))
 | 0 => ⟨fun _ _ _ _ _ _ r h => by simp [reredoslaw18_CostParts.l0] at h, fun _ _ _ _ _ _ _ _ r h => by simp [reredoslaw18_CostParts.l1] at h⟩
 | k + 1 => by
  obtain ⟨ih0, ih1⟩ := reredoslaw18_CostParts.mono_l k
  refine ⟨?_, ?_⟩
  ·intro y0 y1 y2 y3 y4 y5
   unfold reredoslaw18_CostParts.l0
   repeat' first
   | (with_reducible exact ih0 _ _ _ _ _ _)
   | (with_reducible exact ih1 _ _ _ _ _ _ _ _)
   | (with_reducible exact cost_Loop.mono _ _ _ _ _)
   | (with_reducible exact cost_Size.mono _ _ _)
   | (with_reducible exact reredoslaw18_shown.mono _)
   | (with_reducible exact LeO.refl _)
   | (with_reducible exact LeO.none _)
   | (with_reducible refine LeO.ite ?_ ?_)
   | (with_reducible refine LeO.bind ?_ (fun _ => ?_))
   | exact ih0 _ _ _ _ _ _
   | exact ih1 _ _ _ _ _ _ _ _
   | exact cost_Loop.mono _ _ _ _ _
   | exact cost_Size.mono _ _ _
   | exact reredoslaw18_shown.mono _
   | exact LeO.none _
   | refine LeO.ite ?_ ?_
   | refine LeO.bind ?_ (fun _ => ?_)
  ·intro y0 y1 y2 y3 y4 y5 y6 y7
   unfold reredoslaw18_CostParts.l1
   repeat' first
   | (with_reducible exact ih0 _ _ _ _ _ _)
   | (with_reducible exact ih1 _ _ _ _ _ _ _ _)
   | (with_reducible exact cost_Loop.mono _ _ _ _ _)
   | (with_reducible exact cost_Size.mono _ _ _)
   | (with_reducible exact reredoslaw18_shown.mono _)
   | (with_reducible exact LeO.refl _)
   | (with_reducible exact LeO.none _)
   | (with_reducible refine LeO.ite ?_ ?_)
   | (with_reducible refine LeO.bind ?_ (fun _ => ?_))
   | exact ih0 _ _ _ _ _ _
   | exact ih1 _ _ _ _ _ _ _ _
   | exact cost_Loop.mono _ _ _ _ _
   | exact cost_Size.mono _ _ _
   | exact reredoslaw18_shown.mono _
   | exact LeO.none _
   | refine LeO.ite ?_ ?_
   | refine LeO.bind ?_ (fun _ => ?_)
theorem reredoslaw18_CostParts.mono : ∀ a0 a1 k, LeO (reredoslaw18_CostParts.f k a0 a1) (reredoslaw18_CostParts.f (k + 1) a0 a1) := by
 intro a0 a1 k
 obtain ⟨ih0, ih1⟩ := reredoslaw18_CostParts.mono_l k
 unfold reredoslaw18_CostParts.f
 repeat' first
   | (with_reducible exact ih0 _ _ _ _ _ _)
   | (with_reducible exact ih1 _ _ _ _ _ _ _ _)
   | (with_reducible exact cost_Loop.mono _ _ _ _ _)
   | (with_reducible exact cost_Size.mono _ _ _)
   | (with_reducible exact reredoslaw18_shown.mono _)
   | (with_reducible exact LeO.refl _)
   | (with_reducible exact LeO.none _)
   | (with_reducible refine LeO.ite ?_ ?_)
   | (with_reducible refine LeO.bind ?_ (fun _ => ?_))
   | exact ih0 _ _ _ _ _ _
   | exact ih1 _ _ _ _ _ _ _ _
   | exact cost_Loop.mono _ _ _ _ _
   | exact cost_Size.mono _ _ _
   | exact reredoslaw18_shown.mono _
   | exact LeO.none _
   | refine LeO.ite ?_ ?_
   | refine LeO.bind ?_ (fun _ => ?_)
def reredoslaw18_CostParts.T7 : Bool × List (List Nat × List Nat) := (true, [([], []), ([], []), ([], []), ([], []), ([3], [3]), ([2, 4, 1], [2, 4]), ([0, 1, 5], [0, 1, 5]), ([6, 5], [6]), ([7, 7, 0, 1, 2, 3, 4, 5, 6, 7], [7])])
def reredoslaw18_CostParts.B7 : List Nat := [0, 0, 0, 0, 8, 30, 63, 127, 255]
theorem reredoslaw18_CostParts.tab7 : rtab .any (opsOf Try.f8 7) = reredoslaw18_CostParts.T7 := by kernel_rfl
theorem reredoslaw18_CostParts.bits7 : waitsOk reredoslaw18_CostParts.T7.2 reredoslaw18_CostParts.B7 = true := by kernel_rfl
def reredoslaw18_CostParts.T8 : Bool × List (List Nat × List Nat) := (true, [([], []), ([], []), ([1], [1]), ([2], [2]), ([0, 3], [0, 3]), ([4, 3], [4]), ([], []), ([6, 5, 5, 0, 1, 2, 3, 4, 5, 6], [5, 6])])
def reredoslaw18_CostParts.B8 : List Nat := [0, 0, 2, 6, 15, 31, 0, 127]
theorem reredoslaw18_CostParts.tab8 : rtab .any (opsOf Try.f8 8) = reredoslaw18_CostParts.T8 := by kernel_rfl
theorem reredoslaw18_CostParts.bits8 : waitsOk reredoslaw18_CostParts.T8.2 reredoslaw18_CostParts.B8 = true := by kernel_rfl
def reredoslaw18_CostParts.T13 : Bool × List (List Nat × List Nat) := (true, [([], []), ([0], [0]), ([1], [1]), ([2, 1], [1, 2]), ([1], [1]), ([4, 1], [1, 4]), ([1], [1]), ([3, 5, 6, 1, 1], [1, 3, 5, 6]), ([1], [1]), ([7, 8, 1], [1, 7, 8]), ([1, 9], [1, 9]), ([10, 7], [10]), ([11], [11]), ([12, 11], [11, 12]), ([11], [11]), ([14, 11], [11, 14]), ([11], [11]), ([13, 15, 16, 11, 11], [11, 13, 15, 16]), ([11], [11]), ([17, 18, 11], [11, 17, 18]), ([11, 19], [11, 19]), ([20, 17], [20]), ([21], [21]), ([22, 21], [21, 22]), ([21], [21]), ([23, 24, 21, 21], [21, 23, 24]), ([21], [21]), ([25, 26, 21], [21, 25, 26]), ([21, 27], [21, 27]), ([28, 25, 0, 1, 2, 3, 4, 5, 6, 7, 8, 9, 10, 11, 12, 13, 14, 15, 16, 17, 18, 19, 20, 21, 22, 23, 24, 25, 26, 27, 28], [28])])
def reredoslaw18_CostParts.B13 : List Nat := [0, 1, 3, 7, 3, 19, 3, 127, 3, 511, 1023, 2047, 4095, 8191, 4095, 20479, 4095, 131071, 4095, 524287, 1048575, 2097151, 4194303, 8388607, 4194303, 33554431, 4194303, 134217727, 268435455, 536870911]
theorem reredoslaw18_CostParts.tab13 : rtab .any (opsOf Try.f8 13) = reredoslaw18_CostParts.T13 := by kernel_rfl
theorem reredoslaw18_CostParts.bits13 : waitsOk reredoslaw18_CostParts.T13.2 reredoslaw18_CostParts.B13 = true := by kernel_rfl
set_option maxHeartbeats 8000000 in
set_option maxRecDepth 100000 in
theorem reredoslaw18_CostParts.calls (k : Nat) (a0 : Int) (a1 : Int) (r : Bool) (w : World) (h : reredoslaw18_CostParts.f k a0 a1 = some r) :
  Calls Try.prog 8 #[.int .u8 a0, .int .u16 a1] w fun e w' => e = .returned (.bool r) ∧ Below w.heap.size w w' := by
 have hu26 := Try.underlying26
 have HB := am (Below.refl w.heap.size w)
 have H : ((reredoslaw18_shown.f k).bind fun t344 => (reredoslaw18_CostParts.l0 k a0 t344 (wrap64 (Int.tmod a1 4097)) 0 0 0)) = some r := h
 clear h
 replace H := Option.bind_eq_some_iff.mp H
 obtain ⟨t344, A30, H⟩ := H
 replace H : (reredoslaw18_CostParts.l0 k a0 t344 (wrap64 (Int.tmod a1 4097)) 0 0 0) = some r := H
 have A3 := am A30
 clear A30
 have H' := am H
 clear H
 go_enter Try.func8, Try.ntmps8
 go_wp2_with (first | ((with_reducible refine gate_callee (f := 25) rfl ?_); refine goesL_ (some 11) rfl rfl Try.func25 (by kernel_rfl) rfl #[] rfl (by (try simp only [List.map_toArray, List.map_cons, List.map_nil]); first | done | rfl | (simp only [List.length_drop, List.length_take]; rfl)) ?_; (with_reducible refine (reredoslaw18_shown.calls k  t344 _ A3.out).mono ?_); rintro e w4 ⟨rfl, hb⟩; refine ⟨_, rfl, ?_⟩; have n0_ := am (below_step (by repeat (first | (with_reducible first | exact HB.out | apply lA | apply lN | apply lD) | exact HB.out)) hb); clear HB; have HB := n0_; clear n0_; (try clear hb); (try clear hb2); (try clear hk); (try clear hi)) | ((with_reducible refine gate_dst (N := 7) rfl ?_); refine box_event ?hg (N := 7) ?hd (cs := #[.int .i64 0, .int .i64 0]) (t := 26) ?hr ?_; (case hd => rfl); (case hg => rfl); (case hr => first | (go_simp; done) | (go_simp; rfl)); intro gb345 hg w5 hbox hb; have n0_ := am (below_step (by repeat (first | (with_reducible first | exact HB.out | apply lA | apply lN | apply lD) | exact HB.out)) hb); have n1_ := am (hbox); have n2_ := am ((by rw [hg]; exact (below_size (by repeat (first | (with_reducible first | exact HB.out | apply lA | apply lN | apply lD) | exact HB.out))) : w.heap.size ≤ gb345)); have n3_ := n2_; clear HB; have HB := n0_; have BK345 := n1_; have GW345 := n2_; have GE345 := n3_; clear n0_ n1_ n2_ n3_; clear hb hbox hg; have hcz6_0 : w5.cell? ⟨gb345, 0, none⟩ = some (.int .i64 0) := (blk_cell BK345.out 0).trans rfl; have hcz6_1 : w5.cell? ⟨gb345, 1, none⟩ = some (.int .i64 0) := (blk_cell BK345.out 1).trans rfl; have hfz6_0 := blk_frozen BK345.out 0; have hfz6_1 := blk_frozen BK345.out 1))
 go_loopg [8] k (fun kq v8 w' => ∃ (x8_1 : Int) (x346000_1 : Int) (x346001_1 : Int), v8 = .int .i64 x8_1 ∧ Aside0 (reredoslaw18_CostParts.l0 kq a0 t344 (wrap64 (Int.tmod a1 4097)) x8_1 x346000_1 x346001_1 = some r) ∧ Aside0 (kq ≤ k) ∧ Aside0 (w'.heap[gb345]? = some (.cells #[.int .i64 x346000_1, .int .i64 x346001_1] 26 (0, 0))) ∧ Aside0 (Below w.heap.size w w'))
 case atStart => exact ⟨(0), (0), (0), (by first | rfl | (simp; done) | (simp [*]; done)), H', ⟨Nat.le_refl _⟩, ⟨by (with_reducible repeat (first | refine bN ?_ _ | refine bD ?_ | refine bA ?_ _)); refine blk_put (cs := #[.int .i64 0, .int .i64 0]) ?_ 1 _ rfl; (with_reducible repeat (first | refine bN ?_ _ | refine bD ?_ | refine bA ?_ _)); refine blk_put (cs := #[.int .i64 0, .int .i64 0]) ?_ 0 _ rfl; (with_reducible repeat (first | refine bN ?_ _ | refine bD ?_ | refine bA ?_ _)); exact BK345.out⟩, ⟨by repeat (first | (with_reducible first | exact HB.out | apply lA | apply lN | apply lD | refine below_set ?_ GE345.out) | exact HB.out)⟩⟩
 case round =>
  clear H'
  try clear c2
  try clear p2
  try clear p6
  try clear hcz6_0
  try clear hcz6_1
  try clear hfz6_0
  try clear hfz6_1
  obtain ⟨x8_1, x346000_1, x346001_1, rfl, HA, HK1, BK345, HB⟩ := hrel
  cases gk with
  | zero => exact absurd HA.out (by simp [reredoslaw18_CostParts.l0])
  | succ k1 =>
   have H := HA.out
   clear HA
   simp only [reredoslaw18_CostParts.l0] at H
   by_cases c7 : x8_1 < (wrap64 (a0))
   ·rw [if_pos c7] at H
    have c7b0 : decide (x8_1 < (wrap64 (a0))) = true := decide_eq_true c7
    clear c7
    replace H := Option.bind_eq_some_iff.mp H
    obtain ⟨⟨t346, t347⟩, A80, H⟩ := H
    replace H : ((cost_Size.f k1 (wrap64 (Int.tmod a1 4097)) (([(wrap64 (Int.tmod a1 4097))] : List Int))).bind fun bt351 => ((budget_Sum.f (([(⟨x346000_1, x346001_1⟩ : S26), (⟨t346, t347⟩ : S26), (⟨bt351.1, bt351.2⟩ : S26)] : List (S26)))).bind fun bt356 => (reredoslaw18_CostParts.l0 k1 a0 t344 (wrap64 (Int.tmod a1 4097)) (wrap64 (x8_1 + 1)) bt356.1 bt356.2))) = some r := H
    have A8 := am A80
    clear A80
    obtain ⟨y348, hy348⟩ : ∃ y_ : List Int, y_ = (([(wrap64 (Int.tmod a1 4097))] : List Int)) := ⟨_, rfl⟩
    replace H : ((cost_Size.f k1 (wrap64 (Int.tmod a1 4097)) y348).bind fun bt351 => ((budget_Sum.f (([(⟨x346000_1, x346001_1⟩ : S26), (⟨t346, t347⟩ : S26), (⟨bt351.1, bt351.2⟩ : S26)] : List (S26)))).bind fun bt356 => (reredoslaw18_CostParts.l0 k1 a0 t344 (wrap64 (Int.tmod a1 4097)) (wrap64 (x8_1 + 1)) bt356.1 bt356.2))) = some r := by first | (rw [hy348]; with_reducible exact H) | (have H2_ := (Option.bind_some _ _).symm.trans H; rw [hy348]; with_reducible exact H2_) | (have H2_ := (Option.bind_some _ _).symm.trans H; with_reducible exact H2_) | with_reducible exact H | (rw [hy348]; exact H) | exact H
    have Ny348 := am hy348
    clear hy348
    replace H := Option.bind_eq_some_iff.mp H
    obtain ⟨⟨t351, t352⟩, A90, H⟩ := H
    replace H : ((budget_Sum.f (([(⟨x346000_1, x346001_1⟩ : S26), (⟨t346, t347⟩ : S26), (⟨t351, t352⟩ : S26)] : List (S26)))).bind fun bt356 => (reredoslaw18_CostParts.l0 k1 a0 t344 (wrap64 (Int.tmod a1 4097)) (wrap64 (x8_1 + 1)) bt356.1 bt356.2)) = some r := H
    have A9 := am A90
    clear A90
    obtain ⟨y353, hy353⟩ : ∃ y_ : List (S26), y_ = (([(⟨x346000_1, x346001_1⟩ : S26), (⟨t346, t347⟩ : S26), (⟨t351, t352⟩ : S26)] : List (S26))) := ⟨_, rfl⟩
    replace H : ((budget_Sum.f y353).bind fun bt356 => (reredoslaw18_CostParts.l0 k1 a0 t344 (wrap64 (Int.tmod a1 4097)) (wrap64 (x8_1 + 1)) bt356.1 bt356.2)) = some r := by first | (rw [hy353]; with_reducible exact H) | (have H2_ := (Option.bind_some _ _).symm.trans H; rw [hy353]; with_reducible exact H2_) | (have H2_ := (Option.bind_some _ _).symm.trans H; with_reducible exact H2_) | with_reducible exact H | (rw [hy353]; exact H) | exact H
    have Ny353 := am hy353
    clear hy353
    replace H := Option.bind_eq_some_iff.mp H
    obtain ⟨⟨t356, t357⟩, A100, H⟩ := H
    replace H : (reredoslaw18_CostParts.l0 k1 a0 t344 (wrap64 (Int.tmod a1 4097)) (wrap64 (x8_1 + 1)) t356 t357) = some r := H
    have A10 := am A100
    clear A100
    have H' := am H
    clear H
    try go_wp2
    have n0_ := am (bD BK345.out)
    have n1_ := am (lD HB.out)
    clear BK345
    clear HB
    have BK345 := n0_
    have HB := n1_
    clear n0_ n1_
    refine start_ (n := 9) (S := fun w' => w'.cell? ⟨gb345, 0, none⟩ = some (.int .i64 x346000_1) ∧ w'.cell? ⟨gb345, 1, none⟩ = some (.int .i64 x346001_1)) (ds := [8]) #[false, false, false, false, false, false, false, false, false] (by kernel_rfl) rfl rfl ⟨(blk_cell BK345.out 0).trans rfl, (blk_cell BK345.out 1).trans rfl⟩ (fun hHeld => ?_); refine with_tabW reredoslaw18_CostParts.tab7 reredoslaw18_CostParts.bits7 (fun HT_ HW_ => ?_)
    generalize wr.drew = w11 at BK345 HB hHeld ⊢
    refine pure_ (i := 2) (N := some 24) (v := ?_) (a' := ?_) #[false, false, true, false, false, false, false, false, false] rfl rfl (any_of HT_.out (by kernel_rfl)) (fun _ _ _ h => h) (Or.inl ⟨by rfl, ?_⟩) ?_ ?_
    rotate_left
    ·intro w'
     go_simp
     with_reducible rfl
    rotate_left
    ·simp only [Act.put, zT, z0, zS, i64_w, i32_w]
     rfl
    refine pure_ (i := 3) (N := some 25) (v := ?_) (a' := ?_) #[false, false, true, true, false, false, false, false, false] rfl rfl (any_of HT_.out (by kernel_rfl)) (fun _ _ _ h => h) (Or.inl ⟨by rfl, ?_⟩) ?_ ?_
    rotate_left
    ·intro w'
     go_simp
     with_reducible rfl
    rotate_left
    ·simp only [Act.put, zT, z0, zS, i64_w, i32_w]
     rfl
    refine take_ (i := 0) (N := some 22) (v := ?_) (a' := ?_) #[true, false, true, true, false, false, false, false, false] rfl rfl (take_ofW HT_.out HW_.out (by kernel_rfl)) (fun _ _ _ h => h) (Or.inl ⟨by rfl, ?_⟩) hHeld ?_ ?_
    rotate_left
    ·rintro w' ⟨s0, s1⟩
     go_simp
     with_reducible rfl
    rotate_left
    ·simp only [Act.put, zT, z0, zS, i64_w, i32_w]
     rfl
    refine join_ (σ := Value) 4 #[true, true, true, true, true, false, false, false, false] (fun s_ => [(23, .agg #[.int .i64 t346, .int .i64 t347]), (26, s_)]) (fun s_ w' => (w'.cell? ⟨gb345, 0, none⟩ = some (.int .i64 x346000_1) ∧ w'.cell? ⟨gb345, 1, none⟩ = some (.int .i64 x346001_1)) ∧ (Kd.R (Kd.int .i64) 3 w' w.heap.size (fun _ => True) s_ y348) ∧ (w'.heap[gb345]? = some (.cells #[.int .i64 x346000_1, .int .i64 x346001_1] 26 (0, 0))) ∧ (Below w.heap.size w w')) ?_ ?_
    rotate_left
    ·intro hCont
     refine two_ (i := 1) (j := 4) (Ni := some 23) (Nj := some 26) #[true, true, true, true, false, false, false, false, false] #[true, false, true, true, true, false, false, false, false] rfl rfl rfl rfl (two_of HT_.out (by kernel_rfl)) (by decide) (by decide) (fun K hK => ?_) (fun K hK => ?_)
     ·skip
      refine goes_ Try.func26 (by kernel_rfl) rfl #[] (by rfl) rfl rfl (by (try simp only [List.map_toArray, List.map_cons, List.map_nil]); first | done | rfl | (simp only [List.length_drop, List.length_take]; rfl)) ?_
      with_reducible refine (cost_Node.calls  t346 t347 _ A8.out).mono ?_
      rintro e w12 ⟨rfl, hb⟩
      refine ⟨_, rfl, ?_⟩
      have n0_ := am (bB (g := gb345) (o := .cells #[.int .i64 x346000_1, .int .i64 x346001_1] 26 (0, 0)) (by (with_reducible repeat (first | refine bN ?_ _ | refine bD ?_ | refine bA ?_ _)); exact BK345.out) hb)
      have n1_ := am (below_step (by repeat (first | (with_reducible first | exact HB.out | apply lA | apply lN | apply lD | refine below_set ?_ GE345.out) | exact HB.out)) hb)
      clear BK345
      clear HB
      have BK345 := n0_
      have HB := n1_
      clear n0_ n1_
      (try clear hb)
      (try clear hb2)
      (try clear hk)
      (try clear hi)
      refine hK.out _ _ ⟨(blk_cell BK345.out 0).trans rfl, (blk_cell BK345.out 1).trans rfl⟩ (fun hHeld => ?_)
      clear hK K
      refine norm_ (a' := ?_) ?_ ?_
      rotate_left
      ·show Act.put _ (some 23) _ = _
       simp only [Act.put, zT, z0, zS, i64_w, i32_w]
       rfl
      refine one_ (i := 4) (N := some 26) #[true, true, true, true, true, false, false, false, false] rfl rfl (one_of HT_.out (by kernel_rfl)) (by decide) (fun K hK => ?_)
      refine Kd.R_lit_step (Kd.int .i64) _ 3 ?hg (N := 26) ?hd (xs := ([(wrap64 (Int.tmod a1 4097))] : List Int)) (inner := [.int .i64 (wrap64 (Int.tmod a1 4097))]) (ok := fun _ => True) (okp := fun _ => True) ?hr ?hp (fun _ hk => hk) trivial (Below.refl _ _) (Nat.le_refl _) (by simp) ?_; (case hd => rfl); (case hg => rfl); (case hr => first | (go_simp; done) | (go_simp; rfl)); (case hp => exact (Reps.one (show Kd.M (Kd.int .i64) _ _ _ (wrap64 (Int.tmod a1 4097)) [.int .i64 (wrap64 (Int.tmod a1 4097))] from rfl) (Reps.none _ _)))
      intro v349 w13 ho14 hb hg_ hnew_
      clear hg_ hnew_
      (first | rw [← Ny348.out] at ho14 | (simp only [Int.reduceToNat] at ho14; rw [← Ny348.out] at ho14))
      have n0_ := am (Kd.R_lower ho14 (below_size (by repeat (first | (with_reducible first | exact HB.out | apply lA | apply lN | apply lD | refine below_set ?_ GE345.out) | exact HB.out))))
      have n1_ := am (bB (g := gb345) (o := .cells #[.int .i64 x346000_1, .int .i64 x346001_1] 26 (0, 0)) (by (with_reducible repeat (first | refine bN ?_ _ | refine bD ?_ | refine bA ?_ _)); exact BK345.out) hb)
      have n2_ := am (below_step (by repeat (first | (with_reducible first | exact HB.out | apply lA | apply lN | apply lD | refine below_set ?_ GE345.out) | exact HB.out)) hb)
      clear BK345
      clear HB
      have HO350 := n0_
      have BK345 := n1_
      have HB := n2_
      clear n0_ n1_ n2_
      clear hb ho14
      refine hK.out _ _ ⟨(blk_cell BK345.out 0).trans rfl, (blk_cell BK345.out 1).trans rfl⟩ (fun hHeld => ?_)
      clear hK K
      refine norm_ (a' := ?_) ?_ ?_
      rotate_left
      ·show Act.put _ (some 26) _ = _
       simp only [Act.put, zT, z0, zS, i64_w, i32_w]
       rfl
      exact norm_ (by simp only [putAll, Act.put, zT, z0, zS]) (hCont (v349) _ ⟨hHeld, (by (with_reducible repeat (first | apply Kd.R_alloc | apply Kd.R_drewN | apply Kd.R_drew)); exact HO350.out), (by (with_reducible repeat (first | refine bN ?_ _ | refine bD ?_ | refine bA ?_ _)); exact BK345.out), (by repeat (first | (with_reducible first | exact HB.out | apply lA | apply lN | apply lD | refine below_set ?_ GE345.out) | exact HB.out))⟩)
     ·skip
      refine Kd.R_lit_step (Kd.int .i64) _ 3 ?hg (N := 26) ?hd (xs := ([(wrap64 (Int.tmod a1 4097))] : List Int)) (inner := [.int .i64 (wrap64 (Int.tmod a1 4097))]) (ok := fun _ => True) (okp := fun _ => True) ?hr ?hp (fun _ hk => hk) trivial (Below.refl _ _) (Nat.le_refl _) (by simp) ?_; (case hd => rfl); (case hg => rfl); (case hr => first | (go_simp; done) | (go_simp; rfl)); (case hp => exact (Reps.one (show Kd.M (Kd.int .i64) _ _ _ (wrap64 (Int.tmod a1 4097)) [.int .i64 (wrap64 (Int.tmod a1 4097))] from rfl) (Reps.none _ _)))
      intro v349 w12 ho13 hb hg_ hnew_
      clear hg_ hnew_
      (first | rw [← Ny348.out] at ho13 | (simp only [Int.reduceToNat] at ho13; rw [← Ny348.out] at ho13))
      have n0_ := am (Kd.R_lower ho13 (below_size (by repeat (first | (with_reducible first | exact HB.out | apply lA | apply lN | apply lD | refine below_set ?_ GE345.out) | exact HB.out))))
      have n1_ := am (bB (g := gb345) (o := .cells #[.int .i64 x346000_1, .int .i64 x346001_1] 26 (0, 0)) (by (with_reducible repeat (first | refine bN ?_ _ | refine bD ?_ | refine bA ?_ _)); exact BK345.out) hb)
      have n2_ := am (below_step (by repeat (first | (with_reducible first | exact HB.out | apply lA | apply lN | apply lD | refine below_set ?_ GE345.out) | exact HB.out)) hb)
      clear BK345
      clear HB
      have HO350 := n0_
      have BK345 := n1_
      have HB := n2_
      clear n0_ n1_ n2_
      clear hb ho13
      refine hK.out _ _ ⟨(blk_cell BK345.out 0).trans rfl, (blk_cell BK345.out 1).trans rfl⟩ (fun hHeld => ?_)
      clear hK K
      refine norm_ (a' := ?_) ?_ ?_
      rotate_left
      ·show Act.put _ (some 26) _ = _
       simp only [Act.put, zT, z0, zS, i64_w, i32_w]
       rfl
      refine one_ (i := 1) (N := some 23) #[true, true, true, true, true, false, false, false, false] rfl rfl (one_of HT_.out (by kernel_rfl)) (by decide) (fun K hK => ?_)
      refine goes_ Try.func26 (by kernel_rfl) rfl #[] (by rfl) rfl rfl (by (try simp only [List.map_toArray, List.map_cons, List.map_nil]); first | done | rfl | (simp only [List.length_drop, List.length_take]; rfl)) ?_
      with_reducible refine (cost_Node.calls  t346 t347 _ A8.out).mono ?_
      rintro e w14 ⟨rfl, hb⟩
      refine ⟨_, rfl, ?_⟩
      have n0_ := am (Kd.R_below (by (with_reducible repeat (first | apply Kd.R_alloc | apply Kd.R_drewN | apply Kd.R_drew)); exact HO350.out) hb)
      have n1_ := am (bB (g := gb345) (o := .cells #[.int .i64 x346000_1, .int .i64 x346001_1] 26 (0, 0)) (by (with_reducible repeat (first | refine bN ?_ _ | refine bD ?_ | refine bA ?_ _)); exact BK345.out) hb)
      have n2_ := am (below_step (by repeat (first | (with_reducible first | exact HB.out | apply lA | apply lN | apply lD | refine below_set ?_ GE345.out) | exact HB.out)) hb)
      clear HO350
      clear BK345
      clear HB
      have HO350 := n0_
      have BK345 := n1_
      have HB := n2_
      clear n0_ n1_ n2_
      (try clear hb)
      (try clear hb2)
      (try clear hk)
      (try clear hi)
      refine hK.out _ _ ⟨(blk_cell BK345.out 0).trans rfl, (blk_cell BK345.out 1).trans rfl⟩ (fun hHeld => ?_)
      clear hK K
      refine norm_ (a' := ?_) ?_ ?_
      rotate_left
      ·show Act.put _ (some 23) _ = _
       simp only [Act.put, zT, z0, zS, i64_w, i32_w]
       rfl
      exact norm_ (by simp only [putAll, Act.put, zT, z0, zS]) (hCont (v349) _ ⟨hHeld, (by (with_reducible repeat (first | apply Kd.R_alloc | apply Kd.R_drewN | apply Kd.R_drew)); exact HO350.out), (by (with_reducible repeat (first | refine bN ?_ _ | refine bD ?_ | refine bA ?_ _)); exact BK345.out), (by repeat (first | (with_reducible first | exact HB.out | apply lA | apply lN | apply lD | refine below_set ?_ GE345.out) | exact HB.out))⟩)
    rintro v349 w15 ⟨hS_, h0_, h1_, h2_⟩
    have n0_ : Aside0 (Kd.R (Kd.int .i64) 3 w15 w.heap.size (fun _ => True) v349 y348) := ⟨h0_⟩
    have n1_ : Aside0 (w15.heap[gb345]? = some (.cells #[.int .i64 x346000_1, .int .i64 x346001_1] 26 (0, 0))) := ⟨h1_⟩
    have n2_ : Aside0 (Below w.heap.size w w15) := ⟨h2_⟩
    clear BK345
    clear HB
    clear h0_ h1_ h2_
    have HO350 := n0_
    have BK345 := n1_
    have HB := n2_
    clear n0_ n1_ n2_
    have hHeld : w15.cell? ⟨gb345, 0, none⟩ = some (.int .i64 x346000_1) ∧ w15.cell? ⟨gb345, 1, none⟩ = some (.int .i64 x346001_1) := hS_
    obtain ⟨Ao16, co16, eo16⟩ := Kd.R_slice HO350.out
    (first | subst eo16 | (injection eo16 with f1_ f2_ f3_; have f4_ := f1_.symm; have f5_ := f3_.symm; clear f1_ f2_ f3_; subst f4_; subst f5_))
    refine norm_ (a' := ?_) ?_ ?_
    rotate_left
    ·simp only [putAll, Act.put, zT, z0, zS]
     rfl
    refine one_ (i := 5) (N := some 27) #[true, true, true, true, true, true, false, false, false] rfl rfl (one_of HT_.out (by kernel_rfl)) (by decide) (fun K hK => ?_)
    refine goes_ Try.func27 (by kernel_rfl) rfl #[.int .i64 (wrap64 (Int.tmod a1 4097)), .slice Ao16 y348.length co16] (by rfl) rfl rfl (by (try simp only [List.map_toArray, List.map_cons, List.map_nil]); first | done | rfl | (simp only [List.length_drop, List.length_take]; rfl)) ?_
    with_reducible refine (cost_Size.calls k1 (wrap64 (Int.tmod a1 4097)) _ _ y348 t351 t352 _ ?side1 ?side2 A9.out).mono ?_
    (case side1 => repeat (first | exact (Kd.R_reads' HO350.out).2.2 | (with_reducible refine Kd.C_alloc ?_ _) | (with_reducible refine Kd.C_drewN ?_ _) | (with_reducible refine Kd.C_drew ?_)))
    (case side2 => exact (Kd.R_reads' HO350.out).2.1)
    rintro e w17 ⟨rfl, hb⟩
    refine ⟨_, rfl, ?_⟩
    have n0_ := am (Kd.R_below (by (with_reducible repeat (first | apply Kd.R_alloc | apply Kd.R_drewN | apply Kd.R_drew)); exact HO350.out) hb)
    have n1_ := am (bB (g := gb345) (o := .cells #[.int .i64 x346000_1, .int .i64 x346001_1] 26 (0, 0)) (by (with_reducible repeat (first | refine bN ?_ _ | refine bD ?_ | refine bA ?_ _)); exact BK345.out) hb)
    have n2_ := am (below_step (by repeat (first | (with_reducible first | exact HB.out | apply lA | apply lN | apply lD | refine below_set ?_ GE345.out) | exact HB.out)) hb)
    clear HO350
    clear BK345
    clear HB
    have HO350 := n0_
    have BK345 := n1_
    have HB := n2_
    clear n0_ n1_ n2_
    (try clear hb)
    (try clear hb2)
    (try clear hk)
    (try clear hi)
    refine hK.out _ _ ⟨(blk_cell BK345.out 0).trans rfl, (blk_cell BK345.out 1).trans rfl⟩ (fun hHeld => ?_)
    clear hK K
    refine norm_ (a' := ?_) ?_ ?_
    rotate_left
    ·show Act.put _ (some 27) _ = _
     simp only [Act.put, zT, z0, zS, i64_w, i32_w]
     rfl
    refine one_ (i := 6) (N := some 28) #[true, true, true, true, true, true, true, false, false] rfl rfl (one_of HT_.out (by kernel_rfl)) (by decide) (fun K hK => ?_)
    refine Kd.R_lit_step k26 _ 26 ?hg (N := 28) ?hd (xs := ([(⟨x346000_1, x346001_1⟩ : S26), (⟨t346, t347⟩ : S26), (⟨t351, t352⟩ : S26)] : List (S26))) (inner := [.int .i64 x346000_1, .int .i64 x346001_1, .int .i64 t346, .int .i64 t347, .int .i64 t351, .int .i64 t352]) (ok := fun _ => True) (okp := fun _ => True) ?hr ?hp (fun _ hk => hk) trivial (Below.refl _ _) (Nat.le_refl _) (by simp) ?_; (case hd => rfl); (case hg => rfl); (case hr => first | (go_simp; done) | (go_simp; rfl)); (case hp => exact (Reps.c2 (show Kd.M k26 _ _ _ (⟨x346000_1, x346001_1⟩ : S26) [.int .i64 x346000_1, .int .i64 x346001_1] from (k26_mkM _ _ _ (⟨x346000_1, x346001_1⟩ : S26) )) (Reps.c2 (show Kd.M k26 _ _ _ (⟨t346, t347⟩ : S26) [.int .i64 t346, .int .i64 t347] from (k26_mkM _ _ _ (⟨t346, t347⟩ : S26) )) (Reps.c2 (show Kd.M k26 _ _ _ (⟨t351, t352⟩ : S26) [.int .i64 t351, .int .i64 t352] from (k26_mkM _ _ _ (⟨t351, t352⟩ : S26) )) (Reps.none _ _)))))
    intro v354 w18 ho19 hb hg_ hnew_
    clear hg_ hnew_
    (first | rw [← Ny353.out] at ho19 | (simp only [Int.reduceToNat] at ho19; rw [← Ny353.out] at ho19))
    have n0_ := am (Kd.R_below (by (with_reducible repeat (first | apply Kd.R_alloc | apply Kd.R_drewN | apply Kd.R_drew)); exact HO350.out) hb)
    have n1_ := am (Kd.R_lower (Kd.R_newB ho19 (g := gb345) (o := .cells #[.int .i64 x346000_1, .int .i64 x346001_1] 26 (0, 0)) (by (with_reducible repeat (first | refine bN ?_ _ | refine bD ?_ | refine bA ?_ _)); exact BK345.out)) (below_size (by repeat (first | (with_reducible first | exact HB.out | apply lA | apply lN | apply lD | refine below_set ?_ GE345.out) | exact HB.out))))
    have n2_ := am (bB (g := gb345) (o := .cells #[.int .i64 x346000_1, .int .i64 x346001_1] 26 (0, 0)) (by (with_reducible repeat (first | refine bN ?_ _ | refine bD ?_ | refine bA ?_ _)); exact BK345.out) hb)
    have n3_ := am (below_step (by repeat (first | (with_reducible first | exact HB.out | apply lA | apply lN | apply lD | refine below_set ?_ GE345.out) | exact HB.out)) hb)
    clear HO350
    clear BK345
    clear HB
    have HO350 := n0_
    have HO355 := n1_
    have BK345 := n2_
    have HB := n3_
    clear n0_ n1_ n2_ n3_
    clear hb ho19
    obtain ⟨Ao20, co20, eo20⟩ := Kd.R_slice HO355.out
    (first | subst eo20 | (injection eo20 with f1_ f2_ f3_; have f4_ := f1_.symm; have f5_ := f3_.symm; clear f1_ f2_ f3_; subst f4_; subst f5_))
    refine hK.out _ _ ⟨(blk_cell BK345.out 0).trans rfl, (blk_cell BK345.out 1).trans rfl⟩ (fun hHeld => ?_)
    clear hK K
    refine norm_ (a' := ?_) ?_ ?_
    rotate_left
    ·show Act.put _ (some 28) _ = _
     simp only [Act.put, zT, z0, zS, i64_w, i32_w]
     rfl
    refine one_ (i := 7) (N := some 29) #[true, true, true, true, true, true, true, true, false] rfl rfl (one_of HT_.out (by kernel_rfl)) (by decide) (fun K hK => ?_)
    refine goes_ Try.func23 (by kernel_rfl) rfl #[.slice Ao20 y353.length co20] (by rfl) rfl rfl (by (try simp only [List.map_toArray, List.map_cons, List.map_nil]); first | done | rfl | (simp only [List.length_drop, List.length_take]; rfl)) ?_
    with_reducible refine (budget_Sum.calls _ _ y353 t356 t357 _ ?side1 ?side2 A10.out).mono ?_
    (case side1 => repeat (first | exact (Kd.R_reads' HO355.out).2.2 | (with_reducible refine Kd.C_alloc ?_ _) | (with_reducible refine Kd.C_drewN ?_ _) | (with_reducible refine Kd.C_drew ?_)))
    (case side2 => exact (Kd.R_reads' HO355.out).2.1)
    rintro e w21 ⟨rfl, hb⟩
    refine ⟨_, rfl, ?_⟩
    have n0_ := am (Kd.R_below (by (with_reducible repeat (first | apply Kd.R_alloc | apply Kd.R_drewN | apply Kd.R_drew)); exact HO350.out) hb)
    have n1_ := am (Kd.R_below (by (with_reducible repeat (first | apply Kd.R_alloc | apply Kd.R_drewN | apply Kd.R_drew)); exact HO355.out) hb)
    have n2_ := am (bB (g := gb345) (o := .cells #[.int .i64 x346000_1, .int .i64 x346001_1] 26 (0, 0)) (by (with_reducible repeat (first | refine bN ?_ _ | refine bD ?_ | refine bA ?_ _)); exact BK345.out) hb)
    have n3_ := am (below_step (by repeat (first | (with_reducible first | exact HB.out | apply lA | apply lN | apply lD | refine below_set ?_ GE345.out) | exact HB.out)) hb)
    clear HO350
    clear HO355
    clear BK345
    clear HB
    have HO350 := n0_
    have HO355 := n1_
    have BK345 := n2_
    have HB := n3_
    clear n0_ n1_ n2_ n3_
    (try clear hb)
    (try clear hb2)
    (try clear hk)
    (try clear hi)
    refine hK.out _ _ ⟨(blk_cell BK345.out 0).trans rfl, (blk_cell BK345.out 1).trans rfl⟩ (fun hHeld => ?_)
    clear hK K
    refine norm_ (a' := ?_) ?_ ?_
    rotate_left
    ·show Act.put _ (some 29) _ = _
     simp only [Act.put, zT, z0, zS, i64_w, i32_w]
     rfl
    refine last_ (i := 8) (N := none) #[true, true, true, true, true, true, true, true, true] rfl rfl (one_of HT_.out (by kernel_rfl)) (by decide) (fun K hK => ?_)
    have hs22 : w21.cell? ⟨gb345, 0, none⟩ = some (.int .i64 x346000_1) := (blk_cell BK345.out 0).trans rfl
    have hfs22 := blk_frozen BK345.out 0
    have hs23 : w21.cell? ⟨gb345, 1, none⟩ = some (.int .i64 x346001_1) := (blk_cell BK345.out 1).trans rfl
    have hfs23 := blk_frozen BK345.out 1
    refine skip_ (w1 := ?_) (by rfl) rfl ?_ ?_
    rotate_left
    ·go_simp
     rfl
    refine hK.out _ _ ?_
    clear hK K
    refine done_ (done_of HT_.out (by kernel_rfl)) ?_
    try go_wp2
    go_roundg k1
    case measure => have := HK1.out; omega
    case rel => exact ⟨(wrap64 (x8_1 + 1)), (t356), (t357), (by first | rfl | (simp; done) | (simp [*]; done)), H', ⟨by have := HK1.out; omega⟩, ⟨by (with_reducible repeat (first | refine bN ?_ _ | refine bD ?_ | refine bA ?_ _)); refine blk_put (cs := #[.int .i64 t356, .int .i64 x346001_1]) ?_ 1 _ rfl; (with_reducible repeat (first | refine bN ?_ _ | refine bD ?_ | refine bA ?_ _)); refine blk_put (cs := #[.int .i64 x346000_1, .int .i64 x346001_1]) ?_ 0 _ rfl; (with_reducible repeat (first | refine bN ?_ _ | refine bD ?_ | refine bA ?_ _)); exact BK345.out⟩, ⟨by repeat (first | (with_reducible first | exact HB.out | apply lA | apply lN | apply lD | refine below_set ?_ GE345.out) | exact HB.out)⟩⟩
   ·rw [if_neg c7] at H
    have c7b0 : decide (x8_1 < (wrap64 (a0))) = false := decide_eq_false c7
    clear c7
    obtain ⟨y358, hy358⟩ : ∃ y_ : List Int, y_ = (([(wrap64 (Int.tmod a1 4097))] : List Int)) := ⟨_, rfl⟩
    replace H : ((cost_Size.f k1 1 y358).bind fun bt361 => ((budget_Sum.f (([(⟨x346000_1, x346001_1⟩ : S26), (⟨bt361.1, bt361.2⟩ : S26)] : List (S26)))).bind fun bt366 => (reredoslaw18_CostParts.l1 k1 a0 t344 (wrap64 (Int.tmod a1 4097)) 1 x346000_1 x346001_1 bt366.1 bt366.2))) = some r := by first | (rw [hy358]; with_reducible exact H) | (have H2_ := (Option.bind_some _ _).symm.trans H; rw [hy358]; with_reducible exact H2_) | (have H2_ := (Option.bind_some _ _).symm.trans H; with_reducible exact H2_) | with_reducible exact H | (rw [hy358]; exact H) | exact H
    have Ny358 := am hy358
    clear hy358
    replace H := Option.bind_eq_some_iff.mp H
    obtain ⟨⟨t361, t362⟩, A240, H⟩ := H
    replace H : ((budget_Sum.f (([(⟨x346000_1, x346001_1⟩ : S26), (⟨t361, t362⟩ : S26)] : List (S26)))).bind fun bt366 => (reredoslaw18_CostParts.l1 k1 a0 t344 (wrap64 (Int.tmod a1 4097)) 1 x346000_1 x346001_1 bt366.1 bt366.2)) = some r := H
    have A24 := am A240
    clear A240
    obtain ⟨y363, hy363⟩ : ∃ y_ : List (S26), y_ = (([(⟨x346000_1, x346001_1⟩ : S26), (⟨t361, t362⟩ : S26)] : List (S26))) := ⟨_, rfl⟩
    replace H : ((budget_Sum.f y363).bind fun bt366 => (reredoslaw18_CostParts.l1 k1 a0 t344 (wrap64 (Int.tmod a1 4097)) 1 x346000_1 x346001_1 bt366.1 bt366.2)) = some r := by first | (rw [hy363]; with_reducible exact H) | (have H2_ := (Option.bind_some _ _).symm.trans H; rw [hy363]; with_reducible exact H2_) | (have H2_ := (Option.bind_some _ _).symm.trans H; with_reducible exact H2_) | with_reducible exact H | (rw [hy363]; exact H) | exact H
    have Ny363 := am hy363
    clear hy363
    replace H := Option.bind_eq_some_iff.mp H
    obtain ⟨⟨t366, t367⟩, A250, H⟩ := H
    replace H : (reredoslaw18_CostParts.l1 k1 a0 t344 (wrap64 (Int.tmod a1 4097)) 1 x346000_1 x346001_1 t366 t367) = some r := H
    have A25 := am A250
    clear A250
    have H' := am H
    clear H
    try go_wp2
    have n0_ := am (bD BK345.out)
    have n1_ := am (lD HB.out)
    clear BK345
    clear HB
    have BK345 := n0_
    have HB := n1_
    clear n0_ n1_
    refine start_ (n := 8) (S := fun w' => w'.cell? ⟨gb345, 0, none⟩ = some (.int .i64 x346000_1) ∧ w'.cell? ⟨gb345, 1, none⟩ = some (.int .i64 x346001_1)) (ds := []) #[false, false, false, false, false, false, false, false] (by kernel_rfl) rfl rfl ⟨(blk_cell BK345.out 0).trans rfl, (blk_cell BK345.out 1).trans rfl⟩ (fun hHeld => ?_); refine with_tabW reredoslaw18_CostParts.tab8 reredoslaw18_CostParts.bits8 (fun HT_ HW_ => ?_)
    generalize wr.drew = w26 at BK345 HB hHeld ⊢
    refine pure_ (i := 1) (N := some 31) (v := ?_) (a' := ?_) #[false, true, false, false, false, false, false, false] rfl rfl (any_of HT_.out (by kernel_rfl)) (fun _ _ _ h => h) (Or.inl ⟨by rfl, ?_⟩) ?_ ?_
    rotate_left
    ·intro w'
     go_simp
     with_reducible rfl
    rotate_left
    ·simp only [Act.put, zT, z0, zS, i64_w, i32_w]
     rfl
    refine take_ (i := 0) (N := some 30) (v := ?_) (a' := ?_) #[true, true, false, false, false, false, false, false] rfl rfl (take_ofW HT_.out HW_.out (by kernel_rfl)) (fun _ _ _ h => h) (Or.inl ⟨by rfl, ?_⟩) hHeld ?_ ?_
    rotate_left
    ·rintro w' ⟨s0, s1⟩
     go_simp
     with_reducible rfl
    rotate_left
    ·simp only [Act.put, zT, z0, zS, i64_w, i32_w]
     rfl
    refine join_ (σ := Value × Value × Nat) 1 #[true, true, true, true, true, true, true, false] (fun s_ => [(32, s_.1), (33, .agg #[.int .i64 t361, .int .i64 t362]), (34, s_.2.1), (35, .agg #[.int .i64 t366, .int .i64 t367]), (9, .pointer (some ⟨s_.2.2, 0, none⟩))]) (fun s_ w' => (w'.cell? ⟨gb345, 0, none⟩ = some (.int .i64 x346000_1) ∧ w'.cell? ⟨gb345, 1, none⟩ = some (.int .i64 x346001_1)) ∧ (Kd.R (Kd.int .i64) 3 w' w.heap.size (fun _ => True) s_.1 y358) ∧ (Kd.R k26 26 w' w.heap.size (fun k_ => k_ ≠ gb345 ∧ k_ ≠ s_.2.2) s_.2.1 y363) ∧ (w'.heap[gb345]? = some (.cells #[.int .i64 x346000_1, .int .i64 x346001_1] 26 (0, 0))) ∧ (w'.heap[s_.2.2]? = some (.cells #[.int .i64 0, .int .i64 0] 26 (0, 0))) ∧ (w.heap.size ≤ s_.2.2) ∧ (w.heap.size ≤ s_.2.2) ∧ (gb345 ≠ s_.2.2) ∧ (s_.2.2 ≠ gb345) ∧ (Below w.heap.size w w')) ?_ ?_
    rotate_left
    ·intro hJ2_3_4_5_6
     refine join_ (σ := Value × Value) 2 #[true, true, true, true, true, true, false, false] (fun s_ => [(32, s_.1), (33, .agg #[.int .i64 t361, .int .i64 t362]), (34, s_.2), (35, .agg #[.int .i64 t366, .int .i64 t367])]) (fun s_ w' => (w'.cell? ⟨gb345, 0, none⟩ = some (.int .i64 x346000_1) ∧ w'.cell? ⟨gb345, 1, none⟩ = some (.int .i64 x346001_1)) ∧ (Kd.R (Kd.int .i64) 3 w' w.heap.size (fun _ => True) s_.1 y358) ∧ (Kd.R k26 26 w' w.heap.size (fun k_ => k_ ≠ gb345) s_.2 y363) ∧ (w'.heap[gb345]? = some (.cells #[.int .i64 x346000_1, .int .i64 x346001_1] 26 (0, 0))) ∧ (Below w.heap.size w w')) ?_ ?_
     rotate_left
     ·intro hJ2_3_4_5
      refine join_ (σ := Value × Value × Nat) 2 #[true, true, true, true, true, false, true, false] (fun s_ => [(32, s_.1), (33, .agg #[.int .i64 t361, .int .i64 t362]), (34, s_.2.1), (9, .pointer (some ⟨s_.2.2, 0, none⟩))]) (fun s_ w' => (w'.cell? ⟨gb345, 0, none⟩ = some (.int .i64 x346000_1) ∧ w'.cell? ⟨gb345, 1, none⟩ = some (.int .i64 x346001_1)) ∧ (Kd.R (Kd.int .i64) 3 w' w.heap.size (fun _ => True) s_.1 y358) ∧ (Kd.R k26 26 w' w.heap.size (fun k_ => k_ ≠ gb345 ∧ k_ ≠ s_.2.2) s_.2.1 y363) ∧ (w'.heap[gb345]? = some (.cells #[.int .i64 x346000_1, .int .i64 x346001_1] 26 (0, 0))) ∧ (w'.heap[s_.2.2]? = some (.cells #[.int .i64 0, .int .i64 0] 26 (0, 0))) ∧ (w.heap.size ≤ s_.2.2) ∧ (w.heap.size ≤ s_.2.2) ∧ (gb345 ≠ s_.2.2) ∧ (s_.2.2 ≠ gb345) ∧ (Below w.heap.size w w')) ?_ ?_
      rotate_left
      ·intro hJ2_3_4_6
       refine join_ (σ := Value × Value) 3 #[true, true, true, true, true, false, false, false] (fun s_ => [(32, s_.1), (33, .agg #[.int .i64 t361, .int .i64 t362]), (34, s_.2)]) (fun s_ w' => (w'.cell? ⟨gb345, 0, none⟩ = some (.int .i64 x346000_1) ∧ w'.cell? ⟨gb345, 1, none⟩ = some (.int .i64 x346001_1)) ∧ (Kd.R (Kd.int .i64) 3 w' w.heap.size (fun _ => True) s_.1 y358) ∧ (Kd.R k26 26 w' w.heap.size (fun k_ => k_ ≠ gb345) s_.2 y363) ∧ (w'.heap[gb345]? = some (.cells #[.int .i64 x346000_1, .int .i64 x346001_1] 26 (0, 0))) ∧ (Below w.heap.size w w')) ?_ ?_
       rotate_left
       ·intro hJ2_3_4
        refine join_ (σ := Value × Nat) 3 #[true, true, true, true, false, false, true, false] (fun s_ => [(32, s_.1), (33, .agg #[.int .i64 t361, .int .i64 t362]), (9, .pointer (some ⟨s_.2, 0, none⟩))]) (fun s_ w' => (w'.cell? ⟨gb345, 0, none⟩ = some (.int .i64 x346000_1) ∧ w'.cell? ⟨gb345, 1, none⟩ = some (.int .i64 x346001_1)) ∧ (Kd.R (Kd.int .i64) 3 w' w.heap.size (fun _ => True) s_.1 y358) ∧ (w'.heap[gb345]? = some (.cells #[.int .i64 x346000_1, .int .i64 x346001_1] 26 (0, 0))) ∧ (w'.heap[s_.2]? = some (.cells #[.int .i64 0, .int .i64 0] 26 (0, 0))) ∧ (w.heap.size ≤ s_.2) ∧ (w.heap.size ≤ s_.2) ∧ (gb345 ≠ s_.2) ∧ (s_.2 ≠ gb345) ∧ (Below w.heap.size w w')) ?_ ?_
        rotate_left
        ·intro hJ2_3_6
         refine join_ (σ := Value) 4 #[true, true, true, true, false, false, false, false] (fun s_ => [(32, s_), (33, .agg #[.int .i64 t361, .int .i64 t362])]) (fun s_ w' => (w'.cell? ⟨gb345, 0, none⟩ = some (.int .i64 x346000_1) ∧ w'.cell? ⟨gb345, 1, none⟩ = some (.int .i64 x346001_1)) ∧ (Kd.R (Kd.int .i64) 3 w' w.heap.size (fun _ => True) s_ y358) ∧ (w'.heap[gb345]? = some (.cells #[.int .i64 x346000_1, .int .i64 x346001_1] 26 (0, 0))) ∧ (Below w.heap.size w w')) ?_ ?_
         rotate_left
         ·intro hJ2_3
          refine join_ (σ := Value × Nat) 4 #[true, true, true, false, false, false, true, false] (fun s_ => [(32, s_.1), (9, .pointer (some ⟨s_.2, 0, none⟩))]) (fun s_ w' => (w'.cell? ⟨gb345, 0, none⟩ = some (.int .i64 x346000_1) ∧ w'.cell? ⟨gb345, 1, none⟩ = some (.int .i64 x346001_1)) ∧ (Kd.R (Kd.int .i64) 3 w' w.heap.size (fun _ => True) s_.1 y358) ∧ (w'.heap[gb345]? = some (.cells #[.int .i64 x346000_1, .int .i64 x346001_1] 26 (0, 0))) ∧ (w'.heap[s_.2]? = some (.cells #[.int .i64 0, .int .i64 0] 26 (0, 0))) ∧ (w.heap.size ≤ s_.2) ∧ (w.heap.size ≤ s_.2) ∧ (gb345 ≠ s_.2) ∧ (s_.2 ≠ gb345) ∧ (Below w.heap.size w w')) ?_ ?_
          rotate_left
          ·intro hJ2_6
           refine join_ (σ := Value) 5 #[true, true, true, false, false, false, false, false] (fun s_ => [(32, s_)]) (fun s_ w' => (w'.cell? ⟨gb345, 0, none⟩ = some (.int .i64 x346000_1) ∧ w'.cell? ⟨gb345, 1, none⟩ = some (.int .i64 x346001_1)) ∧ (Kd.R (Kd.int .i64) 3 w' w.heap.size (fun _ => True) s_ y358) ∧ (w'.heap[gb345]? = some (.cells #[.int .i64 x346000_1, .int .i64 x346001_1] 26 (0, 0))) ∧ (Below w.heap.size w w')) ?_ ?_
           rotate_left
           ·intro hJ2
            refine join_ (σ := Nat) 5 #[true, true, false, false, false, false, true, false] (fun s_ => [(9, .pointer (some ⟨s_, 0, none⟩))]) (fun s_ w' => (w'.cell? ⟨gb345, 0, none⟩ = some (.int .i64 x346000_1) ∧ w'.cell? ⟨gb345, 1, none⟩ = some (.int .i64 x346001_1)) ∧ (w'.heap[gb345]? = some (.cells #[.int .i64 x346000_1, .int .i64 x346001_1] 26 (0, 0))) ∧ (w'.heap[s_]? = some (.cells #[.int .i64 0, .int .i64 0] 26 (0, 0))) ∧ (w.heap.size ≤ s_) ∧ (w.heap.size ≤ s_) ∧ (gb345 ≠ s_) ∧ (s_ ≠ gb345) ∧ (Below w.heap.size w w')) ?_ ?_
            rotate_left
            ·intro hJ6
             refine two_ (i := 2) (j := 6) (Ni := some 32) (Nj := some 9) #[true, true, true, false, false, false, false, false] #[true, true, false, false, false, false, true, false] rfl rfl rfl rfl (two_of HT_.out (by kernel_rfl)) (by decide) (by decide) (fun K hK => ?_) (fun K hK => ?_)
             ·skip
              refine Kd.R_lit_step (Kd.int .i64) _ 3 ?hg (N := 32) ?hd (xs := ([(wrap64 (Int.tmod a1 4097))] : List Int)) (inner := [.int .i64 (wrap64 (Int.tmod a1 4097))]) (ok := fun _ => True) (okp := fun _ => True) ?hr ?hp (fun _ hk => hk) trivial (Below.refl _ _) (Nat.le_refl _) (by simp) ?_; (case hd => rfl); (case hg => rfl); (case hr => first | (go_simp; done) | (go_simp; rfl)); (case hp => exact (Reps.one (show Kd.M (Kd.int .i64) _ _ _ (wrap64 (Int.tmod a1 4097)) [.int .i64 (wrap64 (Int.tmod a1 4097))] from rfl) (Reps.none _ _)))
              intro v359 w27 ho28 hb hg_ hnew_
              clear hg_ hnew_
              (first | rw [← Ny358.out] at ho28 | (simp only [Int.reduceToNat] at ho28; rw [← Ny358.out] at ho28))
              have n0_ := am (Kd.R_lower ho28 (below_size (by repeat (first | (with_reducible first | exact HB.out | apply lA | apply lN | apply lD | refine below_set ?_ GE345.out) | exact HB.out))))
              have n1_ := am (bB (g := gb345) (o := .cells #[.int .i64 x346000_1, .int .i64 x346001_1] 26 (0, 0)) (by (with_reducible repeat (first | refine bN ?_ _ | refine bD ?_ | refine bA ?_ _)); exact BK345.out) hb)
              have n2_ := am (below_step (by repeat (first | (with_reducible first | exact HB.out | apply lA | apply lN | apply lD | refine below_set ?_ GE345.out) | exact HB.out)) hb)
              clear BK345
              clear HB
              have HO360 := n0_
              have BK345 := n1_
              have HB := n2_
              clear n0_ n1_ n2_
              clear hb ho28
              refine hK.out _ _ ⟨(blk_cell BK345.out 0).trans rfl, (blk_cell BK345.out 1).trans rfl⟩ (fun hHeld => ?_)
              clear hK K
              refine norm_ (a' := ?_) ?_ ?_
              rotate_left
              ·show Act.put _ (some 32) _ = _
               simp only [Act.put, zT, z0, zS, i64_w, i32_w]
               rfl
              exact norm_ (by first | (simp only [putAll, Act.put, zT, z0, zS]; done) | (simp only [putAll, Act.put, zT, z0, zS]; rfl)) (hJ2 (v359) _ ⟨hHeld, (by (with_reducible repeat (first | apply Kd.R_alloc | apply Kd.R_drewN | apply Kd.R_drew)); exact HO360.out), (by (with_reducible repeat (first | refine bN ?_ _ | refine bD ?_ | refine bA ?_ _)); exact BK345.out), (by repeat (first | (with_reducible first | exact HB.out | apply lA | apply lN | apply lD | refine below_set ?_ GE345.out) | exact HB.out))⟩)
             ·skip
              refine box_step ?hg (N := 9) ?hd (cs := #[.int .i64 0, .int .i64 0]) (t := 26) ?hr ?_; (case hd => rfl); (case hg => rfl); (case hr => first | (go_simp; done) | (go_simp; rfl))
              intro gb368 hg w27 hbox hb
              have n0_ := am (bB (g := gb345) (o := .cells #[.int .i64 x346000_1, .int .i64 x346001_1] 26 (0, 0)) (by (with_reducible repeat (first | refine bN ?_ _ | refine bD ?_ | refine bA ?_ _)); exact BK345.out) hb)
              have n1_ := am (below_step (by repeat (first | (with_reducible first | exact HB.out | apply lA | apply lN | apply lD | refine below_set ?_ GE345.out) | exact HB.out)) hb)
              have n2_ := am (hbox)
              have n3_ := am ((by rw [hg]; exact (below_size (by repeat (first | (with_reducible first | exact HB.out | apply lA | apply lN | apply lD | refine below_set ?_ GE345.out) | exact HB.out))) : w.heap.size ≤ gb368))
              have n4_ := n3_
              have n5_ := am ((by rw [hg]; exact Nat.ne_of_lt (blk_lt (g := gb345) (o := .cells #[.int .i64 x346000_1, .int .i64 x346001_1] 26 (0, 0)) (by (with_reducible repeat (first | refine bN ?_ _ | refine bD ?_ | refine bA ?_ _)); exact BK345.out)) : gb345 ≠ gb368))
              have n6_ := am ((by rw [hg]; exact Nat.ne_of_gt (blk_lt (g := gb345) (o := .cells #[.int .i64 x346000_1, .int .i64 x346001_1] 26 (0, 0)) (by (with_reducible repeat (first | refine bN ?_ _ | refine bD ?_ | refine bA ?_ _)); exact BK345.out)) : gb368 ≠ gb345))
              clear BK345
              clear HB
              have BK345 := n0_
              have HB := n1_
              have BK368 := n2_
              have GW368 := n3_
              have GE368 := n4_
              have NB345_368 := n5_
              have NB368_345 := n6_
              clear n0_ n1_ n2_ n3_ n4_ n5_ n6_
              clear hb hbox hg
              refine hK.out _ _ ⟨(blk_cell BK345.out 0).trans rfl, (blk_cell BK345.out 1).trans rfl⟩ (fun hHeld => ?_)
              clear hK K
              refine norm_ (a' := ?_) ?_ ?_
              rotate_left
              ·show Act.put _ (some 9) _ = _
               simp only [Act.put, zT, z0, zS, i64_w, i32_w]
               rfl
              exact norm_ (by first | (simp only [putAll, Act.put, zT, z0, zS]; done) | (simp only [putAll, Act.put, zT, z0, zS]; rfl)) (hJ6 (gb368) _ ⟨hHeld, (by (with_reducible repeat (first | refine bN ?_ _ | refine bD ?_ | refine bA ?_ _)); exact BK345.out), (by (with_reducible repeat (first | refine bN ?_ _ | refine bD ?_ | refine bA ?_ _)); exact BK368.out), GW368.out, GE368.out, NB345_368.out, NB368_345.out, (by repeat (first | (with_reducible first | exact HB.out | apply lA | apply lN | apply lD | refine below_set ?_ GE345.out | refine below_set ?_ GE368.out) | exact HB.out))⟩)
            ·skip
             rintro gb368 w28 ⟨hS_, h0_, h1_, h2_, h3_, h4_, h5_, h6_⟩
             have n0_ : Aside0 (w28.heap[gb345]? = some (.cells #[.int .i64 x346000_1, .int .i64 x346001_1] 26 (0, 0))) := ⟨h0_⟩
             have n1_ : Aside0 (w28.heap[gb368]? = some (.cells #[.int .i64 0, .int .i64 0] 26 (0, 0))) := ⟨h1_⟩
             have n2_ : Aside0 (w.heap.size ≤ gb368) := ⟨h2_⟩
             have n3_ : Aside0 (w.heap.size ≤ gb368) := ⟨h3_⟩
             have n4_ : Aside0 (gb345 ≠ gb368) := ⟨h4_⟩
             have n5_ : Aside0 (gb368 ≠ gb345) := ⟨h5_⟩
             have n6_ : Aside0 (Below w.heap.size w w28) := ⟨h6_⟩
             clear BK345
             clear HB
             clear h0_ h1_ h2_ h3_ h4_ h5_ h6_
             have BK345 := n0_
             have BK368 := n1_
             have GW368 := n2_
             have GE368 := n3_
             have NB345_368 := n4_
             have NB368_345 := n5_
             have HB := n6_
             clear n0_ n1_ n2_ n3_ n4_ n5_ n6_
             have hHeld : w28.cell? ⟨gb345, 0, none⟩ = some (.int .i64 x346000_1) ∧ w28.cell? ⟨gb345, 1, none⟩ = some (.int .i64 x346001_1) := hS_
             refine norm_ (a' := ?_) ?_ ?_
             rotate_left
             ·simp only [putAll, Act.put, zT, z0, zS]
              rfl
             refine one_ (i := 2) (N := some 32) #[true, true, true, false, false, false, true, false] rfl rfl (one_of HT_.out (by kernel_rfl)) (by decide) (fun K hK => ?_)
             refine Kd.R_lit_step (Kd.int .i64) _ 3 ?hg (N := 32) ?hd (xs := ([(wrap64 (Int.tmod a1 4097))] : List Int)) (inner := [.int .i64 (wrap64 (Int.tmod a1 4097))]) (ok := fun _ => True) (okp := fun _ => True) ?hr ?hp (fun _ hk => hk) trivial (Below.refl _ _) (Nat.le_refl _) (by simp) ?_; (case hd => rfl); (case hg => rfl); (case hr => first | (go_simp; done) | (go_simp; rfl)); (case hp => exact (Reps.one (show Kd.M (Kd.int .i64) _ _ _ (wrap64 (Int.tmod a1 4097)) [.int .i64 (wrap64 (Int.tmod a1 4097))] from rfl) (Reps.none _ _)))
             intro v359 w29 ho30 hb hg_ hnew_
             clear hg_ hnew_
             (first | rw [← Ny358.out] at ho30 | (simp only [Int.reduceToNat] at ho30; rw [← Ny358.out] at ho30))
             have n0_ := am (Kd.R_lower ho30 (below_size (by repeat (first | (with_reducible first | exact HB.out | apply lA | apply lN | apply lD | refine below_set ?_ GE345.out | refine below_set ?_ GE368.out) | exact HB.out))))
             have n1_ := am (bB (g := gb345) (o := .cells #[.int .i64 x346000_1, .int .i64 x346001_1] 26 (0, 0)) (by (with_reducible repeat (first | refine bN ?_ _ | refine bD ?_ | refine bA ?_ _)); exact BK345.out) hb)
             have n2_ := am (bB (g := gb368) (o := .cells #[.int .i64 0, .int .i64 0] 26 (0, 0)) (by (with_reducible repeat (first | refine bN ?_ _ | refine bD ?_ | refine bA ?_ _)); exact BK368.out) hb)
             have n3_ := am (below_step (by repeat (first | (with_reducible first | exact HB.out | apply lA | apply lN | apply lD | refine below_set ?_ GE345.out | refine below_set ?_ GE368.out) | exact HB.out)) hb)
             clear BK345
             clear BK368
             clear HB
             have HO360 := n0_
             have BK345 := n1_
             have BK368 := n2_
             have HB := n3_
             clear n0_ n1_ n2_ n3_
             clear hb ho30
             refine hK.out _ _ ⟨(blk_cell BK345.out 0).trans rfl, (blk_cell BK345.out 1).trans rfl⟩ (fun hHeld => ?_)
             clear hK K
             refine norm_ (a' := ?_) ?_ ?_
             rotate_left
             ·show Act.put _ (some 32) _ = _
              simp only [Act.put, zT, z0, zS, i64_w, i32_w]
              rfl
             exact norm_ (by first | (simp only [putAll, Act.put, zT, z0, zS]; done) | (simp only [putAll, Act.put, zT, z0, zS]; rfl)) (hJ2_6 (v359, gb368) _ ⟨hHeld, (by (with_reducible repeat (first | apply Kd.R_alloc | apply Kd.R_drewN | apply Kd.R_drew)); exact HO360.out), (by (with_reducible repeat (first | refine bN ?_ _ | refine bD ?_ | refine bA ?_ _)); exact BK345.out), (by (with_reducible repeat (first | refine bN ?_ _ | refine bD ?_ | refine bA ?_ _)); exact BK368.out), GW368.out, GE368.out, NB345_368.out, NB368_345.out, (by repeat (first | (with_reducible first | exact HB.out | apply lA | apply lN | apply lD | refine below_set ?_ GE345.out | refine below_set ?_ GE368.out) | exact HB.out))⟩)
           ·skip
            rintro v359 w29 ⟨hS_, h0_, h1_, h2_⟩
            have n0_ : Aside0 (Kd.R (Kd.int .i64) 3 w29 w.heap.size (fun _ => True) v359 y358) := ⟨h0_⟩
            have n1_ : Aside0 (w29.heap[gb345]? = some (.cells #[.int .i64 x346000_1, .int .i64 x346001_1] 26 (0, 0))) := ⟨h1_⟩
            have n2_ : Aside0 (Below w.heap.size w w29) := ⟨h2_⟩
            clear BK345
            clear HB
            clear h0_ h1_ h2_
            have HO360 := n0_
            have BK345 := n1_
            have HB := n2_
            clear n0_ n1_ n2_
            have hHeld : w29.cell? ⟨gb345, 0, none⟩ = some (.int .i64 x346000_1) ∧ w29.cell? ⟨gb345, 1, none⟩ = some (.int .i64 x346001_1) := hS_
            obtain ⟨Ao30, co30, eo30⟩ := Kd.R_slice HO360.out
            (first | subst eo30 | (injection eo30 with f1_ f2_ f3_; have f4_ := f1_.symm; have f5_ := f3_.symm; clear f1_ f2_ f3_; subst f4_; subst f5_))
            refine norm_ (a' := ?_) ?_ ?_
            rotate_left
            ·simp only [putAll, Act.put, zT, z0, zS]
             rfl
            refine two_ (i := 3) (j := 6) (Ni := some 33) (Nj := some 9) #[true, true, true, true, false, false, false, false] #[true, true, true, false, false, false, true, false] rfl rfl rfl rfl (two_of HT_.out (by kernel_rfl)) (by decide) (by decide) (fun K hK => ?_) (fun K hK => ?_)
            ·skip
             refine goes_ Try.func27 (by kernel_rfl) rfl #[.int .i64 1, .slice Ao30 y358.length co30] (by rfl) rfl rfl (by (try simp only [List.map_toArray, List.map_cons, List.map_nil]); first | done | rfl | (simp only [List.length_drop, List.length_take]; rfl)) ?_
             with_reducible refine (cost_Size.calls k1 1 _ _ y358 t361 t362 _ ?side1 ?side2 A24.out).mono ?_
             (case side1 => repeat (first | exact (Kd.R_reads' HO360.out).2.2 | (with_reducible refine Kd.C_alloc ?_ _) | (with_reducible refine Kd.C_drewN ?_ _) | (with_reducible refine Kd.C_drew ?_)))
             (case side2 => exact (Kd.R_reads' HO360.out).2.1)
             rintro e w31 ⟨rfl, hb⟩
             refine ⟨_, rfl, ?_⟩
             have n0_ := am (Kd.R_below (by (with_reducible repeat (first | apply Kd.R_alloc | apply Kd.R_drewN | apply Kd.R_drew)); exact HO360.out) hb)
             have n1_ := am (bB (g := gb345) (o := .cells #[.int .i64 x346000_1, .int .i64 x346001_1] 26 (0, 0)) (by (with_reducible repeat (first | refine bN ?_ _ | refine bD ?_ | refine bA ?_ _)); exact BK345.out) hb)
             have n2_ := am (below_step (by repeat (first | (with_reducible first | exact HB.out | apply lA | apply lN | apply lD | refine below_set ?_ GE345.out) | exact HB.out)) hb)
             clear HO360
             clear BK345
             clear HB
             have HO360 := n0_
             have BK345 := n1_
             have HB := n2_
             clear n0_ n1_ n2_
             (try clear hb)
             (try clear hb2)
             (try clear hk)
             (try clear hi)
             refine hK.out _ _ ⟨(blk_cell BK345.out 0).trans rfl, (blk_cell BK345.out 1).trans rfl⟩ (fun hHeld => ?_)
             clear hK K
             refine norm_ (a' := ?_) ?_ ?_
             rotate_left
             ·show Act.put _ (some 33) _ = _
              simp only [Act.put, zT, z0, zS, i64_w, i32_w]
              rfl
             exact norm_ (by first | (simp only [putAll, Act.put, zT, z0, zS]; done) | (simp only [putAll, Act.put, zT, z0, zS]; rfl)) (hJ2_3 (.slice Ao30 y358.length co30) _ ⟨hHeld, (by (with_reducible repeat (first | apply Kd.R_alloc | apply Kd.R_drewN | apply Kd.R_drew)); exact HO360.out), (by (with_reducible repeat (first | refine bN ?_ _ | refine bD ?_ | refine bA ?_ _)); exact BK345.out), (by repeat (first | (with_reducible first | exact HB.out | apply lA | apply lN | apply lD | refine below_set ?_ GE345.out) | exact HB.out))⟩)
            ·skip
             refine box_step ?hg (N := 9) ?hd (cs := #[.int .i64 0, .int .i64 0]) (t := 26) ?hr ?_; (case hd => rfl); (case hg => rfl); (case hr => first | (go_simp; done) | (go_simp; rfl))
             intro gb368 hg w30 hbox hb
             have n0_ := am (Kd.R_below (by (with_reducible repeat (first | apply Kd.R_alloc | apply Kd.R_drewN | apply Kd.R_drew)); exact HO360.out) hb)
             have n1_ := am (bB (g := gb345) (o := .cells #[.int .i64 x346000_1, .int .i64 x346001_1] 26 (0, 0)) (by (with_reducible repeat (first | refine bN ?_ _ | refine bD ?_ | refine bA ?_ _)); exact BK345.out) hb)
             have n2_ := am (below_step (by repeat (first | (with_reducible first | exact HB.out | apply lA | apply lN | apply lD | refine below_set ?_ GE345.out) | exact HB.out)) hb)
             have n3_ := am (hbox)
             have n4_ := am ((by rw [hg]; exact (below_size (by repeat (first | (with_reducible first | exact HB.out | apply lA | apply lN | apply lD | refine below_set ?_ GE345.out) | exact HB.out))) : w.heap.size ≤ gb368))
             have n5_ := n4_
             have n6_ := am ((by rw [hg]; exact Nat.ne_of_lt (blk_lt (g := gb345) (o := .cells #[.int .i64 x346000_1, .int .i64 x346001_1] 26 (0, 0)) (by (with_reducible repeat (first | refine bN ?_ _ | refine bD ?_ | refine bA ?_ _)); exact BK345.out)) : gb345 ≠ gb368))
             have n7_ := am ((by rw [hg]; exact Nat.ne_of_gt (blk_lt (g := gb345) (o := .cells #[.int .i64 x346000_1, .int .i64 x346001_1] 26 (0, 0)) (by (with_reducible repeat (first | refine bN ?_ _ | refine bD ?_ | refine bA ?_ _)); exact BK345.out)) : gb368 ≠ gb345))
             clear HO360
             clear BK345
             clear HB
             have HO360 := n0_
             have BK345 := n1_
             have HB := n2_
             have BK368 := n3_
             have GW368 := n4_
             have GE368 := n5_
             have NB345_368 := n6_
             have NB368_345 := n7_
             clear n0_ n1_ n2_ n3_ n4_ n5_ n6_ n7_
             clear hb hbox hg
             refine hK.out _ _ ⟨(blk_cell BK345.out 0).trans rfl, (blk_cell BK345.out 1).trans rfl⟩ (fun hHeld => ?_)
             clear hK K
             refine norm_ (a' := ?_) ?_ ?_
             rotate_left
             ·show Act.put _ (some 9) _ = _
              simp only [Act.put, zT, z0, zS, i64_w, i32_w]
              rfl
             exact norm_ (by first | (simp only [putAll, Act.put, zT, z0, zS]; done) | (simp only [putAll, Act.put, zT, z0, zS]; rfl)) (hJ2_6 (.slice Ao30 y358.length co30, gb368) _ ⟨hHeld, (by (with_reducible repeat (first | apply Kd.R_alloc | apply Kd.R_drewN | apply Kd.R_drew)); exact HO360.out), (by (with_reducible repeat (first | refine bN ?_ _ | refine bD ?_ | refine bA ?_ _)); exact BK345.out), (by (with_reducible repeat (first | refine bN ?_ _ | refine bD ?_ | refine bA ?_ _)); exact BK368.out), GW368.out, GE368.out, NB345_368.out, NB368_345.out, (by repeat (first | (with_reducible first | exact HB.out | apply lA | apply lN | apply lD | refine below_set ?_ GE345.out | refine below_set ?_ GE368.out) | exact HB.out))⟩)
          ·skip
           rintro ⟨v359, gb368⟩ w30 ⟨hS_, h0_, h1_, h2_, h3_, h4_, h5_, h6_, h7_⟩
           have n0_ : Aside0 (Kd.R (Kd.int .i64) 3 w30 w.heap.size (fun _ => True) v359 y358) := ⟨h0_⟩
           have n1_ : Aside0 (w30.heap[gb345]? = some (.cells #[.int .i64 x346000_1, .int .i64 x346001_1] 26 (0, 0))) := ⟨h1_⟩
           have n2_ : Aside0 (w30.heap[gb368]? = some (.cells #[.int .i64 0, .int .i64 0] 26 (0, 0))) := ⟨h2_⟩
           have n3_ : Aside0 (w.heap.size ≤ gb368) := ⟨h3_⟩
           have n4_ : Aside0 (w.heap.size ≤ gb368) := ⟨h4_⟩
           have n5_ : Aside0 (gb345 ≠ gb368) := ⟨h5_⟩
           have n6_ : Aside0 (gb368 ≠ gb345) := ⟨h6_⟩
           have n7_ : Aside0 (Below w.heap.size w w30) := ⟨h7_⟩
           clear BK345
           clear HB
           clear h0_ h1_ h2_ h3_ h4_ h5_ h6_ h7_
           have HO360 := n0_
           have BK345 := n1_
           have BK368 := n2_
           have GW368 := n3_
           have GE368 := n4_
           have NB345_368 := n5_
           have NB368_345 := n6_
           have HB := n7_
           clear n0_ n1_ n2_ n3_ n4_ n5_ n6_ n7_
           have hHeld : w30.cell? ⟨gb345, 0, none⟩ = some (.int .i64 x346000_1) ∧ w30.cell? ⟨gb345, 1, none⟩ = some (.int .i64 x346001_1) := hS_
           obtain ⟨Ao31, co31, eo31⟩ := Kd.R_slice HO360.out
           (first | subst eo31 | (injection eo31 with f1_ f2_ f3_; have f4_ := f1_.symm; have f5_ := f3_.symm; clear f1_ f2_ f3_; subst f4_; subst f5_))
           refine norm_ (a' := ?_) ?_ ?_
           rotate_left
           ·simp only [putAll, Act.put, zT, z0, zS]
            rfl
           refine one_ (i := 3) (N := some 33) #[true, true, true, true, false, false, true, false] rfl rfl (one_of HT_.out (by kernel_rfl)) (by decide) (fun K hK => ?_)
           refine goes_ Try.func27 (by kernel_rfl) rfl #[.int .i64 1, .slice Ao31 y358.length co31] (by rfl) rfl rfl (by (try simp only [List.map_toArray, List.map_cons, List.map_nil]); first | done | rfl | (simp only [List.length_drop, List.length_take]; rfl)) ?_
           with_reducible refine (cost_Size.calls k1 1 _ _ y358 t361 t362 _ ?side1 ?side2 A24.out).mono ?_
           (case side1 => repeat (first | exact (Kd.R_reads' HO360.out).2.2 | (with_reducible refine Kd.C_alloc ?_ _) | (with_reducible refine Kd.C_drewN ?_ _) | (with_reducible refine Kd.C_drew ?_)))
           (case side2 => exact (Kd.R_reads' HO360.out).2.1)
           rintro e w32 ⟨rfl, hb⟩
           refine ⟨_, rfl, ?_⟩
           have n0_ := am (Kd.R_below (by (with_reducible repeat (first | apply Kd.R_alloc | apply Kd.R_drewN | apply Kd.R_drew)); exact HO360.out) hb)
           have n1_ := am (bB (g := gb345) (o := .cells #[.int .i64 x346000_1, .int .i64 x346001_1] 26 (0, 0)) (by (with_reducible repeat (first | refine bN ?_ _ | refine bD ?_ | refine bA ?_ _)); exact BK345.out) hb)
           have n2_ := am (bB (g := gb368) (o := .cells #[.int .i64 0, .int .i64 0] 26 (0, 0)) (by (with_reducible repeat (first | refine bN ?_ _ | refine bD ?_ | refine bA ?_ _)); exact BK368.out) hb)
           have n3_ := am (below_step (by repeat (first | (with_reducible first | exact HB.out | apply lA | apply lN | apply lD | refine below_set ?_ GE345.out | refine below_set ?_ GE368.out) | exact HB.out)) hb)
           clear HO360
           clear BK345
           clear BK368
           clear HB
           have HO360 := n0_
           have BK345 := n1_
           have BK368 := n2_
           have HB := n3_
           clear n0_ n1_ n2_ n3_
           (try clear hb)
           (try clear hb2)
           (try clear hk)
           (try clear hi)
           refine hK.out _ _ ⟨(blk_cell BK345.out 0).trans rfl, (blk_cell BK345.out 1).trans rfl⟩ (fun hHeld => ?_)
           clear hK K
           refine norm_ (a' := ?_) ?_ ?_
           rotate_left
           ·show Act.put _ (some 33) _ = _
            simp only [Act.put, zT, z0, zS, i64_w, i32_w]
            rfl
           exact norm_ (by first | (simp only [putAll, Act.put, zT, z0, zS]; done) | (simp only [putAll, Act.put, zT, z0, zS]; rfl)) (hJ2_3_6 (.slice Ao31 y358.length co31, gb368) _ ⟨hHeld, (by (with_reducible repeat (first | apply Kd.R_alloc | apply Kd.R_drewN | apply Kd.R_drew)); exact HO360.out), (by (with_reducible repeat (first | refine bN ?_ _ | refine bD ?_ | refine bA ?_ _)); exact BK345.out), (by (with_reducible repeat (first | refine bN ?_ _ | refine bD ?_ | refine bA ?_ _)); exact BK368.out), GW368.out, GE368.out, NB345_368.out, NB368_345.out, (by repeat (first | (with_reducible first | exact HB.out | apply lA | apply lN | apply lD | refine below_set ?_ GE345.out | refine below_set ?_ GE368.out) | exact HB.out))⟩)
         ·skip
          rintro v359 w31 ⟨hS_, h0_, h1_, h2_⟩
          have n0_ : Aside0 (Kd.R (Kd.int .i64) 3 w31 w.heap.size (fun _ => True) v359 y358) := ⟨h0_⟩
          have n1_ : Aside0 (w31.heap[gb345]? = some (.cells #[.int .i64 x346000_1, .int .i64 x346001_1] 26 (0, 0))) := ⟨h1_⟩
          have n2_ : Aside0 (Below w.heap.size w w31) := ⟨h2_⟩
          clear BK345
          clear HB
          clear h0_ h1_ h2_
          have HO360 := n0_
          have BK345 := n1_
          have HB := n2_
          clear n0_ n1_ n2_
          have hHeld : w31.cell? ⟨gb345, 0, none⟩ = some (.int .i64 x346000_1) ∧ w31.cell? ⟨gb345, 1, none⟩ = some (.int .i64 x346001_1) := hS_
          refine norm_ (a' := ?_) ?_ ?_
          rotate_left
          ·simp only [putAll, Act.put, zT, z0, zS]
           rfl
          refine two_ (i := 4) (j := 6) (Ni := some 34) (Nj := some 9) #[true, true, true, true, true, false, false, false] #[true, true, true, true, false, false, true, false] rfl rfl rfl rfl (two_of HT_.out (by kernel_rfl)) (by decide) (by decide) (fun K hK => ?_) (fun K hK => ?_)
          ·skip
           refine Kd.R_lit_step k26 _ 26 ?hg (N := 34) ?hd (xs := ([(⟨x346000_1, x346001_1⟩ : S26), (⟨t361, t362⟩ : S26)] : List (S26))) (inner := [.int .i64 x346000_1, .int .i64 x346001_1, .int .i64 t361, .int .i64 t362]) (ok := fun _ => True) (okp := fun _ => True) ?hr ?hp (fun _ hk => hk) trivial (Below.refl _ _) (Nat.le_refl _) (by simp) ?_; (case hd => rfl); (case hg => rfl); (case hr => first | (go_simp; done) | (go_simp; rfl)); (case hp => exact (Reps.c2 (show Kd.M k26 _ _ _ (⟨x346000_1, x346001_1⟩ : S26) [.int .i64 x346000_1, .int .i64 x346001_1] from (k26_mkM _ _ _ (⟨x346000_1, x346001_1⟩ : S26) )) (Reps.c2 (show Kd.M k26 _ _ _ (⟨t361, t362⟩ : S26) [.int .i64 t361, .int .i64 t362] from (k26_mkM _ _ _ (⟨t361, t362⟩ : S26) )) (Reps.none _ _))))
           intro v364 w32 ho33 hb hg_ hnew_
           clear hg_ hnew_
           (first | rw [← Ny363.out] at ho33 | (simp only [Int.reduceToNat] at ho33; rw [← Ny363.out] at ho33))
           have n0_ := am (Kd.R_below (by (with_reducible repeat (first | apply Kd.R_alloc | apply Kd.R_drewN | apply Kd.R_drew)); exact HO360.out) hb)
           have n1_ := am (Kd.R_lower (Kd.R_newB ho33 (g := gb345) (o := .cells #[.int .i64 x346000_1, .int .i64 x346001_1] 26 (0, 0)) (by (with_reducible repeat (first | refine bN ?_ _ | refine bD ?_ | refine bA ?_ _)); exact BK345.out)) (below_size (by repeat (first | (with_reducible first | exact HB.out | apply lA | apply lN | apply lD | refine below_set ?_ GE345.out) | exact HB.out))))
           have n2_ := am (bB (g := gb345) (o := .cells #[.int .i64 x346000_1, .int .i64 x346001_1] 26 (0, 0)) (by (with_reducible repeat (first | refine bN ?_ _ | refine bD ?_ | refine bA ?_ _)); exact BK345.out) hb)
           have n3_ := am (below_step (by repeat (first | (with_reducible first | exact HB.out | apply lA | apply lN | apply lD | refine below_set ?_ GE345.out) | exact HB.out)) hb)
           clear HO360
           clear BK345
           clear HB
           have HO360 := n0_
           have HO365 := n1_
           have BK345 := n2_
           have HB := n3_
           clear n0_ n1_ n2_ n3_
           clear hb ho33
           refine hK.out _ _ ⟨(blk_cell BK345.out 0).trans rfl, (blk_cell BK345.out 1).trans rfl⟩ (fun hHeld => ?_)
           clear hK K
           refine norm_ (a' := ?_) ?_ ?_
           rotate_left
           ·show Act.put _ (some 34) _ = _
            simp only [Act.put, zT, z0, zS, i64_w, i32_w]
            rfl
           exact norm_ (by first | (simp only [putAll, Act.put, zT, z0, zS]; done) | (simp only [putAll, Act.put, zT, z0, zS]; rfl)) (hJ2_3_4 (v359, v364) _ ⟨hHeld, (by (with_reducible repeat (first | apply Kd.R_alloc | apply Kd.R_drewN | apply Kd.R_drew)); exact HO360.out), (by (with_reducible repeat (first | apply Kd.R_alloc | apply Kd.R_drewN | apply Kd.R_drew)); exact Kd.R_mono HO365.out (fun _ hk => hk.2)), (by (with_reducible repeat (first | refine bN ?_ _ | refine bD ?_ | refine bA ?_ _)); exact BK345.out), (by repeat (first | (with_reducible first | exact HB.out | apply lA | apply lN | apply lD | refine below_set ?_ GE345.out) | exact HB.out))⟩)
          ·skip
           refine box_step ?hg (N := 9) ?hd (cs := #[.int .i64 0, .int .i64 0]) (t := 26) ?hr ?_; (case hd => rfl); (case hg => rfl); (case hr => first | (go_simp; done) | (go_simp; rfl))
           intro gb368 hg w32 hbox hb
           have n0_ := am (Kd.R_below (by (with_reducible repeat (first | apply Kd.R_alloc | apply Kd.R_drewN | apply Kd.R_drew)); exact HO360.out) hb)
           have n1_ := am (bB (g := gb345) (o := .cells #[.int .i64 x346000_1, .int .i64 x346001_1] 26 (0, 0)) (by (with_reducible repeat (first | refine bN ?_ _ | refine bD ?_ | refine bA ?_ _)); exact BK345.out) hb)
           have n2_ := am (below_step (by repeat (first | (with_reducible first | exact HB.out | apply lA | apply lN | apply lD | refine below_set ?_ GE345.out) | exact HB.out)) hb)
           have n3_ := am (hbox)
           have n4_ := am ((by rw [hg]; exact (below_size (by repeat (first | (with_reducible first | exact HB.out | apply lA | apply lN | apply lD | refine below_set ?_ GE345.out) | exact HB.out))) : w.heap.size ≤ gb368))
           have n5_ := n4_
           have n6_ := am ((by rw [hg]; exact Nat.ne_of_lt (blk_lt (g := gb345) (o := .cells #[.int .i64 x346000_1, .int .i64 x346001_1] 26 (0, 0)) (by (with_reducible repeat (first | refine bN ?_ _ | refine bD ?_ | refine bA ?_ _)); exact BK345.out)) : gb345 ≠ gb368))
           have n7_ := am ((by rw [hg]; exact Nat.ne_of_gt (blk_lt (g := gb345) (o := .cells #[.int .i64 x346000_1, .int .i64 x346001_1] 26 (0, 0)) (by (with_reducible repeat (first | refine bN ?_ _ | refine bD ?_ | refine bA ?_ _)); exact BK345.out)) : gb368 ≠ gb345))
           clear HO360
           clear BK345
           clear HB
           have HO360 := n0_
           have BK345 := n1_
           have HB := n2_
           have BK368 := n3_
           have GW368 := n4_
           have GE368 := n5_
           have NB345_368 := n6_
           have NB368_345 := n7_
           clear n0_ n1_ n2_ n3_ n4_ n5_ n6_ n7_
           clear hb hbox hg
           refine hK.out _ _ ⟨(blk_cell BK345.out 0).trans rfl, (blk_cell BK345.out 1).trans rfl⟩ (fun hHeld => ?_)
           clear hK K
           refine norm_ (a' := ?_) ?_ ?_
           rotate_left
           ·show Act.put _ (some 9) _ = _
            simp only [Act.put, zT, z0, zS, i64_w, i32_w]
            rfl
           exact norm_ (by first | (simp only [putAll, Act.put, zT, z0, zS]; done) | (simp only [putAll, Act.put, zT, z0, zS]; rfl)) (hJ2_3_6 (v359, gb368) _ ⟨hHeld, (by (with_reducible repeat (first | apply Kd.R_alloc | apply Kd.R_drewN | apply Kd.R_drew)); exact HO360.out), (by (with_reducible repeat (first | refine bN ?_ _ | refine bD ?_ | refine bA ?_ _)); exact BK345.out), (by (with_reducible repeat (first | refine bN ?_ _ | refine bD ?_ | refine bA ?_ _)); exact BK368.out), GW368.out, GE368.out, NB345_368.out, NB368_345.out, (by repeat (first | (with_reducible first | exact HB.out | apply lA | apply lN | apply lD | refine below_set ?_ GE345.out | refine below_set ?_ GE368.out) | exact HB.out))⟩)
        ·skip
         rintro ⟨v359, gb368⟩ w32 ⟨hS_, h0_, h1_, h2_, h3_, h4_, h5_, h6_, h7_⟩
         have n0_ : Aside0 (Kd.R (Kd.int .i64) 3 w32 w.heap.size (fun _ => True) v359 y358) := ⟨h0_⟩
         have n1_ : Aside0 (w32.heap[gb345]? = some (.cells #[.int .i64 x346000_1, .int .i64 x346001_1] 26 (0, 0))) := ⟨h1_⟩
         have n2_ : Aside0 (w32.heap[gb368]? = some (.cells #[.int .i64 0, .int .i64 0] 26 (0, 0))) := ⟨h2_⟩
         have n3_ : Aside0 (w.heap.size ≤ gb368) := ⟨h3_⟩
         have n4_ : Aside0 (w.heap.size ≤ gb368) := ⟨h4_⟩
         have n5_ : Aside0 (gb345 ≠ gb368) := ⟨h5_⟩
         have n6_ : Aside0 (gb368 ≠ gb345) := ⟨h6_⟩
         have n7_ : Aside0 (Below w.heap.size w w32) := ⟨h7_⟩
         clear BK345
         clear HB
         clear h0_ h1_ h2_ h3_ h4_ h5_ h6_ h7_
         have HO360 := n0_
         have BK345 := n1_
         have BK368 := n2_
         have GW368 := n3_
         have GE368 := n4_
         have NB345_368 := n5_
         have NB368_345 := n6_
         have HB := n7_
         clear n0_ n1_ n2_ n3_ n4_ n5_ n6_ n7_
         have hHeld : w32.cell? ⟨gb345, 0, none⟩ = some (.int .i64 x346000_1) ∧ w32.cell? ⟨gb345, 1, none⟩ = some (.int .i64 x346001_1) := hS_
         refine norm_ (a' := ?_) ?_ ?_
         rotate_left
         ·simp only [putAll, Act.put, zT, z0, zS]
          rfl
         refine one_ (i := 4) (N := some 34) #[true, true, true, true, true, false, true, false] rfl rfl (one_of HT_.out (by kernel_rfl)) (by decide) (fun K hK => ?_)
         refine Kd.R_lit_step k26 _ 26 ?hg (N := 34) ?hd (xs := ([(⟨x346000_1, x346001_1⟩ : S26), (⟨t361, t362⟩ : S26)] : List (S26))) (inner := [.int .i64 x346000_1, .int .i64 x346001_1, .int .i64 t361, .int .i64 t362]) (ok := fun _ => True) (okp := fun _ => True) ?hr ?hp (fun _ hk => hk) trivial (Below.refl _ _) (Nat.le_refl _) (by simp) ?_; (case hd => rfl); (case hg => rfl); (case hr => first | (go_simp; done) | (go_simp; rfl)); (case hp => exact (Reps.c2 (show Kd.M k26 _ _ _ (⟨x346000_1, x346001_1⟩ : S26) [.int .i64 x346000_1, .int .i64 x346001_1] from (k26_mkM _ _ _ (⟨x346000_1, x346001_1⟩ : S26) )) (Reps.c2 (show Kd.M k26 _ _ _ (⟨t361, t362⟩ : S26) [.int .i64 t361, .int .i64 t362] from (k26_mkM _ _ _ (⟨t361, t362⟩ : S26) )) (Reps.none _ _))))
         intro v364 w33 ho34 hb hg_ hnew_
         clear hg_ hnew_
         (first | rw [← Ny363.out] at ho34 | (simp only [Int.reduceToNat] at ho34; rw [← Ny363.out] at ho34))
         have n0_ := am (Kd.R_below (by (with_reducible repeat (first | apply Kd.R_alloc | apply Kd.R_drewN | apply Kd.R_drew)); exact HO360.out) hb)
         have n1_ := am (Kd.R_lower (Kd.R_newB (Kd.R_newB ho34 (g := gb345) (o := .cells #[.int .i64 x346000_1, .int .i64 x346001_1] 26 (0, 0)) (by (with_reducible repeat (first | refine bN ?_ _ | refine bD ?_ | refine bA ?_ _)); exact BK345.out)) (g := gb368) (o := .cells #[.int .i64 0, .int .i64 0] 26 (0, 0)) (by (with_reducible repeat (first | refine bN ?_ _ | refine bD ?_ | refine bA ?_ _)); exact BK368.out)) (below_size (by repeat (first | (with_reducible first | exact HB.out | apply lA | apply lN | apply lD | refine below_set ?_ GE345.out | refine below_set ?_ GE368.out) | exact HB.out))))
         have n2_ := am (bB (g := gb345) (o := .cells #[.int .i64 x346000_1, .int .i64 x346001_1] 26 (0, 0)) (by (with_reducible repeat (first | refine bN ?_ _ | refine bD ?_ | refine bA ?_ _)); exact BK345.out) hb)
         have n3_ := am (bB (g := gb368) (o := .cells #[.int .i64 0, .int .i64 0] 26 (0, 0)) (by (with_reducible repeat (first | refine bN ?_ _ | refine bD ?_ | refine bA ?_ _)); exact BK368.out) hb)
         have n4_ := am (below_step (by repeat (first | (with_reducible first | exact HB.out | apply lA | apply lN | apply lD | refine below_set ?_ GE345.out | refine below_set ?_ GE368.out) | exact HB.out)) hb)
         clear HO360
         clear BK345
         clear BK368
         clear HB
         have HO360 := n0_
         have HO365 := n1_
         have BK345 := n2_
         have BK368 := n3_
         have HB := n4_
         clear n0_ n1_ n2_ n3_ n4_
         clear hb ho34
         refine hK.out _ _ ⟨(blk_cell BK345.out 0).trans rfl, (blk_cell BK345.out 1).trans rfl⟩ (fun hHeld => ?_)
         clear hK K
         refine norm_ (a' := ?_) ?_ ?_
         rotate_left
         ·show Act.put _ (some 34) _ = _
          simp only [Act.put, zT, z0, zS, i64_w, i32_w]
          rfl
         exact norm_ (by first | (simp only [putAll, Act.put, zT, z0, zS]; done) | (simp only [putAll, Act.put, zT, z0, zS]; rfl)) (hJ2_3_4_6 (v359, v364, gb368) _ ⟨hHeld, (by (with_reducible repeat (first | apply Kd.R_alloc | apply Kd.R_drewN | apply Kd.R_drew)); exact HO360.out), (by (with_reducible repeat (first | apply Kd.R_alloc | apply Kd.R_drewN | apply Kd.R_drew)); exact Kd.R_mono HO365.out (fun _ hk => ⟨hk.1.2, hk.2⟩)), (by (with_reducible repeat (first | refine bN ?_ _ | refine bD ?_ | refine bA ?_ _)); exact BK345.out), (by (with_reducible repeat (first | refine bN ?_ _ | refine bD ?_ | refine bA ?_ _)); exact BK368.out), GW368.out, GE368.out, NB345_368.out, NB368_345.out, (by repeat (first | (with_reducible first | exact HB.out | apply lA | apply lN | apply lD | refine below_set ?_ GE345.out | refine below_set ?_ GE368.out) | exact HB.out))⟩)
       ·skip
        rintro ⟨v359, v364⟩ w33 ⟨hS_, h0_, h1_, h2_, h3_⟩
        have n0_ : Aside0 (Kd.R (Kd.int .i64) 3 w33 w.heap.size (fun _ => True) v359 y358) := ⟨h0_⟩
        have n1_ : Aside0 (Kd.R k26 26 w33 w.heap.size (fun k_ => k_ ≠ gb345) v364 y363) := ⟨h1_⟩
        have n2_ : Aside0 (w33.heap[gb345]? = some (.cells #[.int .i64 x346000_1, .int .i64 x346001_1] 26 (0, 0))) := ⟨h2_⟩
        have n3_ : Aside0 (Below w.heap.size w w33) := ⟨h3_⟩
        clear BK345
        clear HB
        clear h0_ h1_ h2_ h3_
        have HO360 := n0_
        have HO365 := n1_
        have BK345 := n2_
        have HB := n3_
        clear n0_ n1_ n2_ n3_
        have hHeld : w33.cell? ⟨gb345, 0, none⟩ = some (.int .i64 x346000_1) ∧ w33.cell? ⟨gb345, 1, none⟩ = some (.int .i64 x346001_1) := hS_
        obtain ⟨Ao34, co34, eo34⟩ := Kd.R_slice HO365.out
        (first | subst eo34 | (injection eo34 with f1_ f2_ f3_; have f4_ := f1_.symm; have f5_ := f3_.symm; clear f1_ f2_ f3_; subst f4_; subst f5_))
        refine norm_ (a' := ?_) ?_ ?_
        rotate_left
        ·simp only [putAll, Act.put, zT, z0, zS]
         rfl
        refine two_ (i := 5) (j := 6) (Ni := some 35) (Nj := some 9) #[true, true, true, true, true, true, false, false] #[true, true, true, true, true, false, true, false] rfl rfl rfl rfl (two_of HT_.out (by kernel_rfl)) (by decide) (by decide) (fun K hK => ?_) (fun K hK => ?_)
        ·skip
         refine goes_ Try.func23 (by kernel_rfl) rfl #[.slice Ao34 y363.length co34] (by rfl) rfl rfl (by (try simp only [List.map_toArray, List.map_cons, List.map_nil]); first | done | rfl | (simp only [List.length_drop, List.length_take]; rfl)) ?_
         with_reducible refine (budget_Sum.calls _ _ y363 t366 t367 _ ?side1 ?side2 A25.out).mono ?_
         (case side1 => repeat (first | exact (Kd.R_reads' HO365.out).2.2 | (with_reducible refine Kd.C_alloc ?_ _) | (with_reducible refine Kd.C_drewN ?_ _) | (with_reducible refine Kd.C_drew ?_)))
         (case side2 => exact (Kd.R_reads' HO365.out).2.1)
         rintro e w35 ⟨rfl, hb⟩
         refine ⟨_, rfl, ?_⟩
         have n0_ := am (Kd.R_below (by (with_reducible repeat (first | apply Kd.R_alloc | apply Kd.R_drewN | apply Kd.R_drew)); exact HO360.out) hb)
         have n1_ := am (Kd.R_below (by (with_reducible repeat (first | apply Kd.R_alloc | apply Kd.R_drewN | apply Kd.R_drew)); exact HO365.out) hb)
         have n2_ := am (bB (g := gb345) (o := .cells #[.int .i64 x346000_1, .int .i64 x346001_1] 26 (0, 0)) (by (with_reducible repeat (first | refine bN ?_ _ | refine bD ?_ | refine bA ?_ _)); exact BK345.out) hb)
         have n3_ := am (below_step (by repeat (first | (with_reducible first | exact HB.out | apply lA | apply lN | apply lD | refine below_set ?_ GE345.out) | exact HB.out)) hb)
         clear HO360
         clear HO365
         clear BK345
         clear HB
         have HO360 := n0_
         have HO365 := n1_
         have BK345 := n2_
         have HB := n3_
         clear n0_ n1_ n2_ n3_
         (try clear hb)
         (try clear hb2)
         (try clear hk)
         (try clear hi)
         refine hK.out _ _ ⟨(blk_cell BK345.out 0).trans rfl, (blk_cell BK345.out 1).trans rfl⟩ (fun hHeld => ?_)
         clear hK K
         refine norm_ (a' := ?_) ?_ ?_
         rotate_left
         ·show Act.put _ (some 35) _ = _
          simp only [Act.put, zT, z0, zS, i64_w, i32_w]
          rfl
         exact norm_ (by first | (simp only [putAll, Act.put, zT, z0, zS]; done) | (simp only [putAll, Act.put, zT, z0, zS]; rfl)) (hJ2_3_4_5 (v359, .slice Ao34 y363.length co34) _ ⟨hHeld, (by (with_reducible repeat (first | apply Kd.R_alloc | apply Kd.R_drewN | apply Kd.R_drew)); exact HO360.out), (by (with_reducible repeat (first | apply Kd.R_alloc | apply Kd.R_drewN | apply Kd.R_drew)); exact HO365.out), (by (with_reducible repeat (first | refine bN ?_ _ | refine bD ?_ | refine bA ?_ _)); exact BK345.out), (by repeat (first | (with_reducible first | exact HB.out | apply lA | apply lN | apply lD | refine below_set ?_ GE345.out) | exact HB.out))⟩)
        ·skip
         refine box_step ?hg (N := 9) ?hd (cs := #[.int .i64 0, .int .i64 0]) (t := 26) ?hr ?_; (case hd => rfl); (case hg => rfl); (case hr => first | (go_simp; done) | (go_simp; rfl))
         intro gb368 hg w34 hbox hb
         have n0_ := am (Kd.R_below (by (with_reducible repeat (first | apply Kd.R_alloc | apply Kd.R_drewN | apply Kd.R_drew)); exact HO360.out) hb)
         have n1_ := am (Kd.R_below (Kd.R_elderB (by (with_reducible repeat (first | apply Kd.R_alloc | apply Kd.R_drewN | apply Kd.R_drew)); exact HO365.out) gb368 (Nat.le_of_eq hg.symm)) hb)
         have n2_ := am (bB (g := gb345) (o := .cells #[.int .i64 x346000_1, .int .i64 x346001_1] 26 (0, 0)) (by (with_reducible repeat (first | refine bN ?_ _ | refine bD ?_ | refine bA ?_ _)); exact BK345.out) hb)
         have n3_ := am (below_step (by repeat (first | (with_reducible first | exact HB.out | apply lA | apply lN | apply lD | refine below_set ?_ GE345.out) | exact HB.out)) hb)
         have n4_ := am (hbox)
         have n5_ := am ((by rw [hg]; exact (below_size (by repeat (first | (with_reducible first | exact HB.out | apply lA | apply lN | apply lD | refine below_set ?_ GE345.out) | exact HB.out))) : w.heap.size ≤ gb368))
         have n6_ := n5_
         have n7_ := am ((by rw [hg]; exact Nat.ne_of_lt (blk_lt (g := gb345) (o := .cells #[.int .i64 x346000_1, .int .i64 x346001_1] 26 (0, 0)) (by (with_reducible repeat (first | refine bN ?_ _ | refine bD ?_ | refine bA ?_ _)); exact BK345.out)) : gb345 ≠ gb368))
         have n8_ := am ((by rw [hg]; exact Nat.ne_of_gt (blk_lt (g := gb345) (o := .cells #[.int .i64 x346000_1, .int .i64 x346001_1] 26 (0, 0)) (by (with_reducible repeat (first | refine bN ?_ _ | refine bD ?_ | refine bA ?_ _)); exact BK345.out)) : gb368 ≠ gb345))
         clear HO360
         clear HO365
         clear BK345
         clear HB
         have HO360 := n0_
         have HO365 := n1_
         have BK345 := n2_
         have HB := n3_
         have BK368 := n4_
         have GW368 := n5_
         have GE368 := n6_
         have NB345_368 := n7_
         have NB368_345 := n8_
         clear n0_ n1_ n2_ n3_ n4_ n5_ n6_ n7_ n8_
         clear hb hbox hg
         refine hK.out _ _ ⟨(blk_cell BK345.out 0).trans rfl, (blk_cell BK345.out 1).trans rfl⟩ (fun hHeld => ?_)
         clear hK K
         refine norm_ (a' := ?_) ?_ ?_
         rotate_left
         ·show Act.put _ (some 9) _ = _
          simp only [Act.put, zT, z0, zS, i64_w, i32_w]
          rfl
         exact norm_ (by first | (simp only [putAll, Act.put, zT, z0, zS]; done) | (simp only [putAll, Act.put, zT, z0, zS]; rfl)) (hJ2_3_4_6 (v359, .slice Ao34 y363.length co34, gb368) _ ⟨hHeld, (by (with_reducible repeat (first | apply Kd.R_alloc | apply Kd.R_drewN | apply Kd.R_drew)); exact HO360.out), (by (with_reducible repeat (first | apply Kd.R_alloc | apply Kd.R_drewN | apply Kd.R_drew)); exact HO365.out), (by (with_reducible repeat (first | refine bN ?_ _ | refine bD ?_ | refine bA ?_ _)); exact BK345.out), (by (with_reducible repeat (first | refine bN ?_ _ | refine bD ?_ | refine bA ?_ _)); exact BK368.out), GW368.out, GE368.out, NB345_368.out, NB368_345.out, (by repeat (first | (with_reducible first | exact HB.out | apply lA | apply lN | apply lD | refine below_set ?_ GE345.out | refine below_set ?_ GE368.out) | exact HB.out))⟩)
      ·skip
       rintro ⟨v359, v364, gb368⟩ w34 ⟨hS_, h0_, h1_, h2_, h3_, h4_, h5_, h6_, h7_, h8_⟩
       have n0_ : Aside0 (Kd.R (Kd.int .i64) 3 w34 w.heap.size (fun _ => True) v359 y358) := ⟨h0_⟩
       have n1_ : Aside0 (Kd.R k26 26 w34 w.heap.size (fun k_ => k_ ≠ gb345 ∧ k_ ≠ gb368) v364 y363) := ⟨h1_⟩
       have n2_ : Aside0 (w34.heap[gb345]? = some (.cells #[.int .i64 x346000_1, .int .i64 x346001_1] 26 (0, 0))) := ⟨h2_⟩
       have n3_ : Aside0 (w34.heap[gb368]? = some (.cells #[.int .i64 0, .int .i64 0] 26 (0, 0))) := ⟨h3_⟩
       have n4_ : Aside0 (w.heap.size ≤ gb368) := ⟨h4_⟩
       have n5_ : Aside0 (w.heap.size ≤ gb368) := ⟨h5_⟩
       have n6_ : Aside0 (gb345 ≠ gb368) := ⟨h6_⟩
       have n7_ : Aside0 (gb368 ≠ gb345) := ⟨h7_⟩
       have n8_ : Aside0 (Below w.heap.size w w34) := ⟨h8_⟩
       clear BK345
       clear HB
       clear h0_ h1_ h2_ h3_ h4_ h5_ h6_ h7_ h8_
       have HO360 := n0_
       have HO365 := n1_
       have BK345 := n2_
       have BK368 := n3_
       have GW368 := n4_
       have GE368 := n5_
       have NB345_368 := n6_
       have NB368_345 := n7_
       have HB := n8_
       clear n0_ n1_ n2_ n3_ n4_ n5_ n6_ n7_ n8_
       have hHeld : w34.cell? ⟨gb345, 0, none⟩ = some (.int .i64 x346000_1) ∧ w34.cell? ⟨gb345, 1, none⟩ = some (.int .i64 x346001_1) := hS_
       obtain ⟨Ao35, co35, eo35⟩ := Kd.R_slice HO365.out
       (first | subst eo35 | (injection eo35 with f1_ f2_ f3_; have f4_ := f1_.symm; have f5_ := f3_.symm; clear f1_ f2_ f3_; subst f4_; subst f5_))
       refine norm_ (a' := ?_) ?_ ?_
       rotate_left
       ·simp only [putAll, Act.put, zT, z0, zS]
        rfl
       refine one_ (i := 5) (N := some 35) #[true, true, true, true, true, true, true, false] rfl rfl (one_of HT_.out (by kernel_rfl)) (by decide) (fun K hK => ?_)
       refine goes_ Try.func23 (by kernel_rfl) rfl #[.slice Ao35 y363.length co35] (by rfl) rfl rfl (by (try simp only [List.map_toArray, List.map_cons, List.map_nil]); first | done | rfl | (simp only [List.length_drop, List.length_take]; rfl)) ?_
       with_reducible refine (budget_Sum.calls _ _ y363 t366 t367 _ ?side1 ?side2 A25.out).mono ?_
       (case side1 => repeat (first | exact (Kd.R_reads' HO365.out).2.2 | (with_reducible refine Kd.C_alloc ?_ _) | (with_reducible refine Kd.C_drewN ?_ _) | (with_reducible refine Kd.C_drew ?_)))
       (case side2 => exact (Kd.R_reads' HO365.out).2.1)
       rintro e w36 ⟨rfl, hb⟩
       refine ⟨_, rfl, ?_⟩
       have n0_ := am (Kd.R_below (by (with_reducible repeat (first | apply Kd.R_alloc | apply Kd.R_drewN | apply Kd.R_drew)); exact HO360.out) hb)
       have n1_ := am (Kd.R_below (by (with_reducible repeat (first | apply Kd.R_alloc | apply Kd.R_drewN | apply Kd.R_drew)); exact HO365.out) hb)
       have n2_ := am (bB (g := gb345) (o := .cells #[.int .i64 x346000_1, .int .i64 x346001_1] 26 (0, 0)) (by (with_reducible repeat (first | refine bN ?_ _ | refine bD ?_ | refine bA ?_ _)); exact BK345.out) hb)
       have n3_ := am (bB (g := gb368) (o := .cells #[.int .i64 0, .int .i64 0] 26 (0, 0)) (by (with_reducible repeat (first | refine bN ?_ _ | refine bD ?_ | refine bA ?_ _)); exact BK368.out) hb)
       have n4_ := am (below_step (by repeat (first | (with_reducible first | exact HB.out | apply lA | apply lN | apply lD | refine below_set ?_ GE345.out | refine below_set ?_ GE368.out) | exact HB.out)) hb)
       clear HO360
       clear HO365
       clear BK345
       clear BK368
       clear HB
       have HO360 := n0_
       have HO365 := n1_
       have BK345 := n2_
       have BK368 := n3_
       have HB := n4_
       clear n0_ n1_ n2_ n3_ n4_
       (try clear hb)
       (try clear hb2)
       (try clear hk)
       (try clear hi)
       refine hK.out _ _ ⟨(blk_cell BK345.out 0).trans rfl, (blk_cell BK345.out 1).trans rfl⟩ (fun hHeld => ?_)
       clear hK K
       refine norm_ (a' := ?_) ?_ ?_
       rotate_left
       ·show Act.put _ (some 35) _ = _
        simp only [Act.put, zT, z0, zS, i64_w, i32_w]
        rfl
       exact norm_ (by first | (simp only [putAll, Act.put, zT, z0, zS]; done) | (simp only [putAll, Act.put, zT, z0, zS]; rfl)) (hJ2_3_4_5_6 (v359, .slice Ao35 y363.length co35, gb368) _ ⟨hHeld, (by (with_reducible repeat (first | apply Kd.R_alloc | apply Kd.R_drewN | apply Kd.R_drew)); exact HO360.out), (by (with_reducible repeat (first | apply Kd.R_alloc | apply Kd.R_drewN | apply Kd.R_drew)); exact HO365.out), (by (with_reducible repeat (first | refine bN ?_ _ | refine bD ?_ | refine bA ?_ _)); exact BK345.out), (by (with_reducible repeat (first | refine bN ?_ _ | refine bD ?_ | refine bA ?_ _)); exact BK368.out), GW368.out, GE368.out, NB345_368.out, NB368_345.out, (by repeat (first | (with_reducible first | exact HB.out | apply lA | apply lN | apply lD | refine below_set ?_ GE345.out | refine below_set ?_ GE368.out) | exact HB.out))⟩)
     ·skip
      rintro ⟨v359, v364⟩ w35 ⟨hS_, h0_, h1_, h2_, h3_⟩
      have n0_ : Aside0 (Kd.R (Kd.int .i64) 3 w35 w.heap.size (fun _ => True) v359 y358) := ⟨h0_⟩
      have n1_ : Aside0 (Kd.R k26 26 w35 w.heap.size (fun k_ => k_ ≠ gb345) v364 y363) := ⟨h1_⟩
      have n2_ : Aside0 (w35.heap[gb345]? = some (.cells #[.int .i64 x346000_1, .int .i64 x346001_1] 26 (0, 0))) := ⟨h2_⟩
      have n3_ : Aside0 (Below w.heap.size w w35) := ⟨h3_⟩
      clear BK345
      clear HB
      clear h0_ h1_ h2_ h3_
      have HO360 := n0_
      have HO365 := n1_
      have BK345 := n2_
      have HB := n3_
      clear n0_ n1_ n2_ n3_
      have hHeld : w35.cell? ⟨gb345, 0, none⟩ = some (.int .i64 x346000_1) ∧ w35.cell? ⟨gb345, 1, none⟩ = some (.int .i64 x346001_1) := hS_
      refine norm_ (a' := ?_) ?_ ?_
      rotate_left
      ·simp only [putAll, Act.put, zT, z0, zS]
       rfl
      refine one_ (i := 6) (N := some 9) #[true, true, true, true, true, true, true, false] rfl rfl (one_of HT_.out (by kernel_rfl)) (by decide) (fun K hK => ?_)
      refine box_step ?hg (N := 9) ?hd (cs := #[.int .i64 0, .int .i64 0]) (t := 26) ?hr ?_; (case hd => rfl); (case hg => rfl); (case hr => first | (go_simp; done) | (go_simp; rfl))
      intro gb368 hg w36 hbox hb
      have n0_ := am (Kd.R_below (by (with_reducible repeat (first | apply Kd.R_alloc | apply Kd.R_drewN | apply Kd.R_drew)); exact HO360.out) hb)
      have n1_ := am (Kd.R_below (Kd.R_elderB (by (with_reducible repeat (first | apply Kd.R_alloc | apply Kd.R_drewN | apply Kd.R_drew)); exact HO365.out) gb368 (Nat.le_of_eq hg.symm)) hb)
      have n2_ := am (bB (g := gb345) (o := .cells #[.int .i64 x346000_1, .int .i64 x346001_1] 26 (0, 0)) (by (with_reducible repeat (first | refine bN ?_ _ | refine bD ?_ | refine bA ?_ _)); exact BK345.out) hb)
      have n3_ := am (below_step (by repeat (first | (with_reducible first | exact HB.out | apply lA | apply lN | apply lD | refine below_set ?_ GE345.out) | exact HB.out)) hb)
      have n4_ := am (hbox)
      have n5_ := am ((by rw [hg]; exact (below_size (by repeat (first | (with_reducible first | exact HB.out | apply lA | apply lN | apply lD | refine below_set ?_ GE345.out) | exact HB.out))) : w.heap.size ≤ gb368))
      have n6_ := n5_
      have n7_ := am ((by rw [hg]; exact Nat.ne_of_lt (blk_lt (g := gb345) (o := .cells #[.int .i64 x346000_1, .int .i64 x346001_1] 26 (0, 0)) (by (with_reducible repeat (first | refine bN ?_ _ | refine bD ?_ | refine bA ?_ _)); exact BK345.out)) : gb345 ≠ gb368))
      have n8_ := am ((by rw [hg]; exact Nat.ne_of_gt (blk_lt (g := gb345) (o := .cells #[.int .i64 x346000_1, .int .i64 x346001_1] 26 (0, 0)) (by (with_reducible repeat (first | refine bN ?_ _ | refine bD ?_ | refine bA ?_ _)); exact BK345.out)) : gb368 ≠ gb345))
      clear HO360
      clear HO365
      clear BK345
      clear HB
      have HO360 := n0_
      have HO365 := n1_
      have BK345 := n2_
      have HB := n3_
      have BK368 := n4_
      have GW368 := n5_
      have GE368 := n6_
      have NB345_368 := n7_
      have NB368_345 := n8_
      clear n0_ n1_ n2_ n3_ n4_ n5_ n6_ n7_ n8_
      clear hb hbox hg
      refine hK.out _ _ ⟨(blk_cell BK345.out 0).trans rfl, (blk_cell BK345.out 1).trans rfl⟩ (fun hHeld => ?_)
      clear hK K
      refine norm_ (a' := ?_) ?_ ?_
      rotate_left
      ·show Act.put _ (some 9) _ = _
       simp only [Act.put, zT, z0, zS, i64_w, i32_w]
       rfl
      exact norm_ (by first | (simp only [putAll, Act.put, zT, z0, zS]; done) | (simp only [putAll, Act.put, zT, z0, zS]; rfl)) (hJ2_3_4_5_6 (v359, v364, gb368) _ ⟨hHeld, (by (with_reducible repeat (first | apply Kd.R_alloc | apply Kd.R_drewN | apply Kd.R_drew)); exact HO360.out), (by (with_reducible repeat (first | apply Kd.R_alloc | apply Kd.R_drewN | apply Kd.R_drew)); exact HO365.out), (by (with_reducible repeat (first | refine bN ?_ _ | refine bD ?_ | refine bA ?_ _)); exact BK345.out), (by (with_reducible repeat (first | refine bN ?_ _ | refine bD ?_ | refine bA ?_ _)); exact BK368.out), GW368.out, GE368.out, NB345_368.out, NB368_345.out, (by repeat (first | (with_reducible first | exact HB.out | apply lA | apply lN | apply lD | refine below_set ?_ GE345.out | refine below_set ?_ GE368.out) | exact HB.out))⟩)
    rintro ⟨v359, v364, gb368⟩ w36 ⟨hS_, h0_, h1_, h2_, h3_, h4_, h5_, h6_, h7_, h8_⟩
    have n0_ : Aside0 (Kd.R (Kd.int .i64) 3 w36 w.heap.size (fun _ => True) v359 y358) := ⟨h0_⟩
    have n1_ : Aside0 (Kd.R k26 26 w36 w.heap.size (fun k_ => k_ ≠ gb345 ∧ k_ ≠ gb368) v364 y363) := ⟨h1_⟩
    have n2_ : Aside0 (w36.heap[gb345]? = some (.cells #[.int .i64 x346000_1, .int .i64 x346001_1] 26 (0, 0))) := ⟨h2_⟩
    have n3_ : Aside0 (w36.heap[gb368]? = some (.cells #[.int .i64 0, .int .i64 0] 26 (0, 0))) := ⟨h3_⟩
    have n4_ : Aside0 (w.heap.size ≤ gb368) := ⟨h4_⟩
    have n5_ : Aside0 (w.heap.size ≤ gb368) := ⟨h5_⟩
    have n6_ : Aside0 (gb345 ≠ gb368) := ⟨h6_⟩
    have n7_ : Aside0 (gb368 ≠ gb345) := ⟨h7_⟩
    have n8_ : Aside0 (Below w.heap.size w w36) := ⟨h8_⟩
    clear BK345
    clear HB
    clear h0_ h1_ h2_ h3_ h4_ h5_ h6_ h7_ h8_
    have HO360 := n0_
    have HO365 := n1_
    have BK345 := n2_
    have BK368 := n3_
    have GW368 := n4_
    have GE368 := n5_
    have NB345_368 := n6_
    have NB368_345 := n7_
    have HB := n8_
    clear n0_ n1_ n2_ n3_ n4_ n5_ n6_ n7_ n8_
    have hHeld : w36.cell? ⟨gb345, 0, none⟩ = some (.int .i64 x346000_1) ∧ w36.cell? ⟨gb345, 1, none⟩ = some (.int .i64 x346001_1) := hS_
    refine norm_ (a' := ?_) ?_ ?_
    rotate_left
    ·simp only [putAll, Act.put, zT, z0, zS]
     rfl
    refine one_ (i := 7) (N := none) #[true, true, true, true, true, true, true, true] rfl rfl (one_of HT_.out (by kernel_rfl)) (by decide) (fun K hK => ?_)
    have hs37 : w36.cell? ⟨gb368, 0, none⟩ = some (.int .i64 0) := (blk_cell BK368.out 0).trans rfl
    have hfs37 := blk_frozen BK368.out 0
    have hns37_0 := NB345_368.out
    have hms37_0 := NB368_345.out
    have hs38 : w36.cell? ⟨gb368, 1, none⟩ = some (.int .i64 0) := (blk_cell BK368.out 1).trans rfl
    have hfs38 := blk_frozen BK368.out 1
    have hns38_0 := NB345_368.out
    have hms38_0 := NB368_345.out
    refine skip_ (w1 := ?_) (by rfl) rfl ?_ ?_
    rotate_left
    ·go_simp
     rfl
    refine hK.out _ _ ⟨((cell_far (p := ⟨gb368, _, none⟩) NB345_368.out _).trans (((cell_far (p := ⟨gb368, _, none⟩) NB345_368.out _).trans (hHeld.1)))), ((cell_far (p := ⟨gb368, _, none⟩) NB345_368.out _).trans (((cell_far (p := ⟨gb368, _, none⟩) NB345_368.out _).trans (hHeld.2))))⟩ (fun hHeld => ?_)
    clear hK K
    refine done_ (done_of HT_.out (by kernel_rfl)) ?_
    try go_wp2
    go_loopg [10] k1 (fun kq v10 w' => ∃ (x10_2 : Int) (x369000_2 : Int) (x369001_2 : Int), v10 = .int .i64 x10_2 ∧ Aside0 (reredoslaw18_CostParts.l1 kq a0 t344 (wrap64 (Int.tmod a1 4097)) x10_2 x346000_1 x346001_1 x369000_2 x369001_2 = some r) ∧ Aside0 (kq ≤ k1) ∧ Aside0 (w'.heap[gb345]? = some (.cells #[.int .i64 x346000_1, .int .i64 x346001_1] 26 (0, 0))) ∧ Aside0 (w'.heap[gb368]? = some (.cells #[.int .i64 x369000_2, .int .i64 x369001_2] 26 (0, 0))) ∧ Aside0 (Below w.heap.size w w'))
    case atStart => exact ⟨(1), (t366), (t367), (by first | rfl | (simp; done) | (simp [*]; done)), H', ⟨Nat.le_refl _⟩, ⟨by (with_reducible repeat (first | refine bN ?_ _ | refine bD ?_ | refine bA ?_ _)); refine blk_far ?_ NB345_368.out _; (with_reducible repeat (first | refine bN ?_ _ | refine bD ?_ | refine bA ?_ _)); refine blk_far ?_ NB345_368.out _; (with_reducible repeat (first | refine bN ?_ _ | refine bD ?_ | refine bA ?_ _)); exact BK345.out⟩, ⟨by (with_reducible repeat (first | refine bN ?_ _ | refine bD ?_ | refine bA ?_ _)); refine blk_put (cs := #[.int .i64 t366, .int .i64 0]) ?_ 1 _ rfl; (with_reducible repeat (first | refine bN ?_ _ | refine bD ?_ | refine bA ?_ _)); refine blk_put (cs := #[.int .i64 0, .int .i64 0]) ?_ 0 _ rfl; (with_reducible repeat (first | refine bN ?_ _ | refine bD ?_ | refine bA ?_ _)); exact BK368.out⟩, ⟨by repeat (first | (with_reducible first | exact HB.out | apply lA | apply lN | apply lD | refine below_set ?_ GE345.out | refine below_set ?_ GE368.out) | exact HB.out)⟩⟩
    case round =>
     clear H'
     try clear c2
     try clear p2
     try clear p6
     try clear c23
     try clear c27
     obtain ⟨x10_2, x369000_2, x369001_2, rfl, HA, HK2, BK345, BK368, HB⟩ := hrel
     cases gk with
     | zero => exact absurd HA.out (by simp [reredoslaw18_CostParts.l1])
     | succ k2 =>
      have H := HA.out
      clear HA
      simp only [reredoslaw18_CostParts.l1] at H
      by_cases c39 : x10_2 < (wrap64 (Int.tmod a1 4097))
      ·rw [if_pos c39] at H
       have c39b0 : decide (x10_2 < (wrap64 (Int.tmod a1 4097))) = true := decide_eq_true c39
       clear c39
       obtain ⟨y369, hy369⟩ : ∃ y_ : List Int, y_ = (([1, 1] : List Int)) := ⟨_, rfl⟩
       replace H : ((cost_Size.f k2 1 y369).bind fun bt372 => ((budget_Sum.f (([(⟨x369000_2, x369001_2⟩ : S26), (⟨bt372.1, bt372.2⟩ : S26)] : List (S26)))).bind fun bt377 => (reredoslaw18_CostParts.l1 k2 a0 t344 (wrap64 (Int.tmod a1 4097)) (wrap64 (x10_2 + 1)) x346000_1 x346001_1 bt377.1 bt377.2))) = some r := by first | (rw [hy369]; with_reducible exact H) | (have H2_ := (Option.bind_some _ _).symm.trans H; rw [hy369]; with_reducible exact H2_) | (have H2_ := (Option.bind_some _ _).symm.trans H; with_reducible exact H2_) | with_reducible exact H | (rw [hy369]; exact H) | exact H
       have Ny369 := am hy369
       clear hy369
       replace H := Option.bind_eq_some_iff.mp H
       obtain ⟨⟨t372, t373⟩, A400, H⟩ := H
       replace H : ((budget_Sum.f (([(⟨x369000_2, x369001_2⟩ : S26), (⟨t372, t373⟩ : S26)] : List (S26)))).bind fun bt377 => (reredoslaw18_CostParts.l1 k2 a0 t344 (wrap64 (Int.tmod a1 4097)) (wrap64 (x10_2 + 1)) x346000_1 x346001_1 bt377.1 bt377.2)) = some r := H
       have A40 := am A400
       clear A400
       obtain ⟨y374, hy374⟩ : ∃ y_ : List (S26), y_ = (([(⟨x369000_2, x369001_2⟩ : S26), (⟨t372, t373⟩ : S26)] : List (S26))) := ⟨_, rfl⟩
       replace H : ((budget_Sum.f y374).bind fun bt377 => (reredoslaw18_CostParts.l1 k2 a0 t344 (wrap64 (Int.tmod a1 4097)) (wrap64 (x10_2 + 1)) x346000_1 x346001_1 bt377.1 bt377.2)) = some r := by first | (rw [hy374]; with_reducible exact H) | (have H2_ := (Option.bind_some _ _).symm.trans H; rw [hy374]; with_reducible exact H2_) | (have H2_ := (Option.bind_some _ _).symm.trans H; with_reducible exact H2_) | with_reducible exact H | (rw [hy374]; exact H) | exact H
       have Ny374 := am hy374
       clear hy374
       replace H := Option.bind_eq_some_iff.mp H
       obtain ⟨⟨t377, t378⟩, A410, H⟩ := H
       replace H : (reredoslaw18_CostParts.l1 k2 a0 t344 (wrap64 (Int.tmod a1 4097)) (wrap64 (x10_2 + 1)) x346000_1 x346001_1 t377 t378) = some r := H
       have A41 := am A410
       clear A410
       have H' := am H
       clear H
       try go_wp2
       have n0_ := am (bD BK345.out)
       have n1_ := am (bD BK368.out)
       have n2_ := am (lD HB.out)
       clear BK345
       clear BK368
       clear HB
       have BK345 := n0_
       have BK368 := n1_
       have HB := n2_
       clear n0_ n1_ n2_
       refine start_ (n := 6) (S := fun w' => w'.cell? ⟨gb368, 0, none⟩ = some (.int .i64 x369000_2) ∧ w'.cell? ⟨gb368, 1, none⟩ = some (.int .i64 x369001_2)) (ds := [5]) #[false, false, false, false, false, false] (by kernel_rfl) rfl rfl ⟨(blk_cell BK368.out 0).trans rfl, (blk_cell BK368.out 1).trans rfl⟩ (fun hHeld => ?_)
       generalize wr.drew = w42 at BK345 BK368 HB hHeld ⊢
       refine take_ (i := 0) (N := some 41) (v := ?_) (a' := ?_) #[true, false, false, false, false, false] rfl rfl (by kernel_rfl) (fun _ _ _ h => h) (Or.inl ⟨by rfl, ?_⟩) hHeld ?_ ?_
       rotate_left
       ·rintro w' ⟨s0, s1⟩
        go_simp
        with_reducible rfl
       rotate_left
       ·simp only [Act.put, zT, z0, zS, i64_w, i32_w]
        rfl
       refine one_ (i := 1) (N := some 42) #[true, true, false, false, false, false] rfl rfl (by kernel_rfl) (by decide) (fun K hK => ?_)
       refine Kd.R_lit_step (Kd.int .i64) _ 3 ?hg (N := 42) ?hd (xs := ([1, 1] : List Int)) (inner := [.int .i64 1, .int .i64 1]) (ok := fun _ => True) (okp := fun _ => True) ?hr ?hp (fun _ hk => hk) trivial (Below.refl _ _) (Nat.le_refl _) (by simp) ?_; (case hd => rfl); (case hg => rfl); (case hr => first | (go_simp; done) | (go_simp; rfl)); (case hp => exact (Reps.one (show Kd.M (Kd.int .i64) _ _ _ 1 [.int .i64 1] from rfl) (Reps.one (show Kd.M (Kd.int .i64) _ _ _ 1 [.int .i64 1] from rfl) (Reps.none _ _))))
       intro v370 w43 ho44 hb hg_ hnew_
       clear hg_ hnew_
       (first | rw [← Ny369.out] at ho44 | (simp only [Int.reduceToNat] at ho44; rw [← Ny369.out] at ho44))
       have n0_ := am (Kd.R_lower ho44 (below_size (by repeat (first | (with_reducible first | exact HB.out | apply lA | apply lN | apply lD | refine below_set ?_ GE345.out | refine below_set ?_ GE368.out) | exact HB.out))))
       have n1_ := am (bB (g := gb345) (o := .cells #[.int .i64 x346000_1, .int .i64 x346001_1] 26 (0, 0)) (by (with_reducible repeat (first | refine bN ?_ _ | refine bD ?_ | refine bA ?_ _)); exact BK345.out) hb)
       have n2_ := am (bB (g := gb368) (o := .cells #[.int .i64 x369000_2, .int .i64 x369001_2] 26 (0, 0)) (by (with_reducible repeat (first | refine bN ?_ _ | refine bD ?_ | refine bA ?_ _)); exact BK368.out) hb)
       have n3_ := am (below_step (by repeat (first | (with_reducible first | exact HB.out | apply lA | apply lN | apply lD | refine below_set ?_ GE345.out | refine below_set ?_ GE368.out) | exact HB.out)) hb)
       clear BK345
       clear BK368
       clear HB
       have HO371 := n0_
       have BK345 := n1_
       have BK368 := n2_
       have HB := n3_
       clear n0_ n1_ n2_ n3_
       clear hb ho44
       obtain ⟨Ao45, co45, eo45⟩ := Kd.R_slice HO371.out
       (first | subst eo45 | (injection eo45 with f1_ f2_ f3_; have f4_ := f1_.symm; have f5_ := f3_.symm; clear f1_ f2_ f3_; subst f4_; subst f5_))
       refine hK.out _ _ ⟨(blk_cell BK368.out 0).trans rfl, (blk_cell BK368.out 1).trans rfl⟩ (fun hHeld => ?_)
       clear hK K
       refine norm_ (a' := ?_) ?_ ?_
       rotate_left
       ·show Act.put _ (some 42) _ = _
        simp only [Act.put, zT, z0, zS, i64_w, i32_w]
        rfl
       refine one_ (i := 2) (N := some 43) #[true, true, true, false, false, false] rfl rfl (by kernel_rfl) (by decide) (fun K hK => ?_)
       refine goes_ Try.func27 (by kernel_rfl) rfl #[.int .i64 1, .slice Ao45 y369.length co45] (by rfl) rfl rfl (by (try simp only [List.map_toArray, List.map_cons, List.map_nil]); first | done | rfl | (simp only [List.length_drop, List.length_take]; rfl)) ?_
       with_reducible refine (cost_Size.calls k2 1 _ _ y369 t372 t373 _ ?side1 ?side2 A40.out).mono ?_
       (case side1 => repeat (first | exact (Kd.R_reads' HO371.out).2.2 | (with_reducible refine Kd.C_alloc ?_ _) | (with_reducible refine Kd.C_drewN ?_ _) | (with_reducible refine Kd.C_drew ?_)))
       (case side2 => exact (Kd.R_reads' HO371.out).2.1)
       rintro e w46 ⟨rfl, hb⟩
       refine ⟨_, rfl, ?_⟩
       have n0_ := am (Kd.R_below (by (with_reducible repeat (first | apply Kd.R_alloc | apply Kd.R_drewN | apply Kd.R_drew)); exact HO371.out) hb)
       have n1_ := am (bB (g := gb345) (o := .cells #[.int .i64 x346000_1, .int .i64 x346001_1] 26 (0, 0)) (by (with_reducible repeat (first | refine bN ?_ _ | refine bD ?_ | refine bA ?_ _)); exact BK345.out) hb)
       have n2_ := am (bB (g := gb368) (o := .cells #[.int .i64 x369000_2, .int .i64 x369001_2] 26 (0, 0)) (by (with_reducible repeat (first | refine bN ?_ _ | refine bD ?_ | refine bA ?_ _)); exact BK368.out) hb)
       have n3_ := am (below_step (by repeat (first | (with_reducible first | exact HB.out | apply lA | apply lN | apply lD | refine below_set ?_ GE345.out | refine below_set ?_ GE368.out) | exact HB.out)) hb)
       clear HO371
       clear BK345
       clear BK368
       clear HB
       have HO371 := n0_
       have BK345 := n1_
       have BK368 := n2_
       have HB := n3_
       clear n0_ n1_ n2_ n3_
       (try clear hb)
       (try clear hb2)
       (try clear hk)
       (try clear hi)
       refine hK.out _ _ ⟨(blk_cell BK368.out 0).trans rfl, (blk_cell BK368.out 1).trans rfl⟩ (fun hHeld => ?_)
       clear hK K
       refine norm_ (a' := ?_) ?_ ?_
       rotate_left
       ·show Act.put _ (some 43) _ = _
        simp only [Act.put, zT, z0, zS, i64_w, i32_w]
        rfl
       refine one_ (i := 3) (N := some 44) #[true, true, true, true, false, false] rfl rfl (by kernel_rfl) (by decide) (fun K hK => ?_)
       refine Kd.R_lit_step k26 _ 26 ?hg (N := 44) ?hd (xs := ([(⟨x369000_2, x369001_2⟩ : S26), (⟨t372, t373⟩ : S26)] : List (S26))) (inner := [.int .i64 x369000_2, .int .i64 x369001_2, .int .i64 t372, .int .i64 t373]) (ok := fun _ => True) (okp := fun _ => True) ?hr ?hp (fun _ hk => hk) trivial (Below.refl _ _) (Nat.le_refl _) (by simp) ?_; (case hd => rfl); (case hg => rfl); (case hr => first | (go_simp; done) | (go_simp; rfl)); (case hp => exact (Reps.c2 (show Kd.M k26 _ _ _ (⟨x369000_2, x369001_2⟩ : S26) [.int .i64 x369000_2, .int .i64 x369001_2] from (k26_mkM _ _ _ (⟨x369000_2, x369001_2⟩ : S26) )) (Reps.c2 (show Kd.M k26 _ _ _ (⟨t372, t373⟩ : S26) [.int .i64 t372, .int .i64 t373] from (k26_mkM _ _ _ (⟨t372, t373⟩ : S26) )) (Reps.none _ _))))
       intro v375 w47 ho48 hb hg_ hnew_
       clear hg_ hnew_
       (first | rw [← Ny374.out] at ho48 | (simp only [Int.reduceToNat] at ho48; rw [← Ny374.out] at ho48))
       have n0_ := am (Kd.R_below (by (with_reducible repeat (first | apply Kd.R_alloc | apply Kd.R_drewN | apply Kd.R_drew)); exact HO371.out) hb)
       have n1_ := am (Kd.R_lower (Kd.R_newB (Kd.R_newB ho48 (g := gb345) (o := .cells #[.int .i64 x346000_1, .int .i64 x346001_1] 26 (0, 0)) (by (with_reducible repeat (first | refine bN ?_ _ | refine bD ?_ | refine bA ?_ _)); exact BK345.out)) (g := gb368) (o := .cells #[.int .i64 x369000_2, .int .i64 x369001_2] 26 (0, 0)) (by (with_reducible repeat (first | refine bN ?_ _ | refine bD ?_ | refine bA ?_ _)); exact BK368.out)) (below_size (by repeat (first | (with_reducible first | exact HB.out | apply lA | apply lN | apply lD | refine below_set ?_ GE345.out | refine below_set ?_ GE368.out) | exact HB.out))))
       have n2_ := am (bB (g := gb345) (o := .cells #[.int .i64 x346000_1, .int .i64 x346001_1] 26 (0, 0)) (by (with_reducible repeat (first | refine bN ?_ _ | refine bD ?_ | refine bA ?_ _)); exact BK345.out) hb)
       have n3_ := am (bB (g := gb368) (o := .cells #[.int .i64 x369000_2, .int .i64 x369001_2] 26 (0, 0)) (by (with_reducible repeat (first | refine bN ?_ _ | refine bD ?_ | refine bA ?_ _)); exact BK368.out) hb)
       have n4_ := am (below_step (by repeat (first | (with_reducible first | exact HB.out | apply lA | apply lN | apply lD | refine below_set ?_ GE345.out | refine below_set ?_ GE368.out) | exact HB.out)) hb)
       clear HO371
       clear BK345
       clear BK368
       clear HB
       have HO371 := n0_
       have HO376 := n1_
       have BK345 := n2_
       have BK368 := n3_
       have HB := n4_
       clear n0_ n1_ n2_ n3_ n4_
       clear hb ho48
       obtain ⟨Ao49, co49, eo49⟩ := Kd.R_slice HO376.out
       (first | subst eo49 | (injection eo49 with f1_ f2_ f3_; have f4_ := f1_.symm; have f5_ := f3_.symm; clear f1_ f2_ f3_; subst f4_; subst f5_))
       refine hK.out _ _ ⟨(blk_cell BK368.out 0).trans rfl, (blk_cell BK368.out 1).trans rfl⟩ (fun hHeld => ?_)
       clear hK K
       refine norm_ (a' := ?_) ?_ ?_
       rotate_left
       ·show Act.put _ (some 44) _ = _
        simp only [Act.put, zT, z0, zS, i64_w, i32_w]
        rfl
       refine one_ (i := 4) (N := some 45) #[true, true, true, true, true, false] rfl rfl (by kernel_rfl) (by decide) (fun K hK => ?_)
       refine goes_ Try.func23 (by kernel_rfl) rfl #[.slice Ao49 y374.length co49] (by rfl) rfl rfl (by (try simp only [List.map_toArray, List.map_cons, List.map_nil]); first | done | rfl | (simp only [List.length_drop, List.length_take]; rfl)) ?_
       with_reducible refine (budget_Sum.calls _ _ y374 t377 t378 _ ?side1 ?side2 A41.out).mono ?_
       (case side1 => repeat (first | exact (Kd.R_reads' HO376.out).2.2 | (with_reducible refine Kd.C_alloc ?_ _) | (with_reducible refine Kd.C_drewN ?_ _) | (with_reducible refine Kd.C_drew ?_)))
       (case side2 => exact (Kd.R_reads' HO376.out).2.1)
       rintro e w50 ⟨rfl, hb⟩
       refine ⟨_, rfl, ?_⟩
       have n0_ := am (Kd.R_below (by (with_reducible repeat (first | apply Kd.R_alloc | apply Kd.R_drewN | apply Kd.R_drew)); exact HO371.out) hb)
       have n1_ := am (Kd.R_below (by (with_reducible repeat (first | apply Kd.R_alloc | apply Kd.R_drewN | apply Kd.R_drew)); exact HO376.out) hb)
       have n2_ := am (bB (g := gb345) (o := .cells #[.int .i64 x346000_1, .int .i64 x346001_1] 26 (0, 0)) (by (with_reducible repeat (first | refine bN ?_ _ | refine bD ?_ | refine bA ?_ _)); exact BK345.out) hb)
       have n3_ := am (bB (g := gb368) (o := .cells #[.int .i64 x369000_2, .int .i64 x369001_2] 26 (0, 0)) (by (with_reducible repeat (first | refine bN ?_ _ | refine bD ?_ | refine bA ?_ _)); exact BK368.out) hb)
       have n4_ := am (below_step (by repeat (first | (with_reducible first | exact HB.out | apply lA | apply lN | apply lD | refine below_set ?_ GE345.out | refine below_set ?_ GE368.out) | exact HB.out)) hb)
       clear HO371
       clear HO376
       clear BK345
       clear BK368
       clear HB
       have HO371 := n0_
       have HO376 := n1_
       have BK345 := n2_
       have BK368 := n3_
       have HB := n4_
       clear n0_ n1_ n2_ n3_ n4_
       (try clear hb)
       (try clear hb2)
       (try clear hk)
       (try clear hi)
       refine hK.out _ _ ⟨(blk_cell BK368.out 0).trans rfl, (blk_cell BK368.out 1).trans rfl⟩ (fun hHeld => ?_)
       clear hK K
       refine norm_ (a' := ?_) ?_ ?_
       rotate_left
       ·show Act.put _ (some 45) _ = _
        simp only [Act.put, zT, z0, zS, i64_w, i32_w]
        rfl
       refine last_ (i := 5) (N := none) #[true, true, true, true, true, true] rfl rfl (by kernel_rfl) (by decide) (fun K hK => ?_)
       have hs51 : w50.cell? ⟨gb368, 0, none⟩ = some (.int .i64 x369000_2) := (blk_cell BK368.out 0).trans rfl
       have hfs51 := blk_frozen BK368.out 0
       have hns51_0 := NB345_368.out
       have hms51_0 := NB368_345.out
       have hs52 : w50.cell? ⟨gb368, 1, none⟩ = some (.int .i64 x369001_2) := (blk_cell BK368.out 1).trans rfl
       have hfs52 := blk_frozen BK368.out 1
       have hns52_0 := NB345_368.out
       have hms52_0 := NB368_345.out
       refine skip_ (w1 := ?_) (by rfl) rfl ?_ ?_
       rotate_left
       ·go_simp
        rfl
       refine hK.out _ _ ?_
       clear hK K
       refine done_ (by kernel_rfl) ?_
       try go_wp2
       go_roundg k2
       case measure => have := HK1.out; have := HK2.out; omega
       case rel => exact ⟨(wrap64 (x10_2 + 1)), (t377), (t378), (by first | rfl | (simp; done) | (simp [*]; done)), H', ⟨by have := HK1.out; have := HK2.out; omega⟩, ⟨by (with_reducible repeat (first | refine bN ?_ _ | refine bD ?_ | refine bA ?_ _)); refine blk_far ?_ NB345_368.out _; (with_reducible repeat (first | refine bN ?_ _ | refine bD ?_ | refine bA ?_ _)); refine blk_far ?_ NB345_368.out _; (with_reducible repeat (first | refine bN ?_ _ | refine bD ?_ | refine bA ?_ _)); exact BK345.out⟩, ⟨by (with_reducible repeat (first | refine bN ?_ _ | refine bD ?_ | refine bA ?_ _)); refine blk_put (cs := #[.int .i64 t377, .int .i64 x369001_2]) ?_ 1 _ rfl; (with_reducible repeat (first | refine bN ?_ _ | refine bD ?_ | refine bA ?_ _)); refine blk_put (cs := #[.int .i64 x369000_2, .int .i64 x369001_2]) ?_ 0 _ rfl; (with_reducible repeat (first | refine bN ?_ _ | refine bD ?_ | refine bA ?_ _)); exact BK368.out⟩, ⟨by repeat (first | (with_reducible first | exact HB.out | apply lA | apply lN | apply lD | refine below_set ?_ GE345.out | refine below_set ?_ GE368.out) | exact HB.out)⟩⟩
      ·rw [if_neg c39] at H
       have c39b0 : decide (x10_2 < (wrap64 (Int.tmod a1 4097))) = false := decide_eq_false c39
       clear c39
       by_cases c53 : t344 = true
       ·subst c53
        have H1 : ((cost_Loop.f k2 (wrap64 (a0)) (wrap64 (a0)) (wrap64 (Int.tmod a1 4097)) false).bind fun bt379 => (if (bt379.1 == x346000_1 && (bt379.2 == x346001_1)) = true then ((cost_Loop.f k2 (wrap64 (a0)) (wrap64 (a0)) (wrap64 (Int.tmod a1 4097)) true).bind fun bt381 => (if (bt381.1 == x369000_2 && (bt381.2 == x369001_2)) = true then ((cost_Loop.f k2 (wrap64 (a0)) 300 (wrap64 (Int.tmod a1 4097)) false).bind fun bt383 => (some (bt383.1 == x346000_1 && (bt383.2 == x346001_1)))) else (none))) else (none))) = some r := by rw [if_pos rfl] at H; exact H
        clear H
        have H := H1
        clear H1
        replace H := Option.bind_eq_some_iff.mp H
        obtain ⟨⟨t379, t380⟩, A540, H⟩ := H
        replace H : (if (t379 == x346000_1 && (t380 == x346001_1)) = true then ((cost_Loop.f k2 (wrap64 (a0)) (wrap64 (a0)) (wrap64 (Int.tmod a1 4097)) true).bind fun bt381 => (if (bt381.1 == x369000_2 && (bt381.2 == x369001_2)) = true then ((cost_Loop.f k2 (wrap64 (a0)) 300 (wrap64 (Int.tmod a1 4097)) false).bind fun bt383 => (some (bt383.1 == x346000_1 && (bt383.2 == x346001_1)))) else (none))) else (none)) = some r := H
        have A54 := am A540
        clear A540
        by_cases c55 : (t379 == x346000_1 && (t380 == x346001_1)) = true
        ·rw [if_pos c55] at H
         have c55b0 : (t379 == x346000_1 && (t380 == x346001_1)) = true := c55
         (try (have c55b1 : decide (t379 = x346000_1 && (t380 == x346001_1)) = true := by simpa using c55))
         (try (have c55b2 : (t379 == x346000_1 && (t380 == x346001_1)) = true := by simpa using c55))
         clear c55
         replace H := Option.bind_eq_some_iff.mp H
         obtain ⟨⟨t381, t382⟩, A560, H⟩ := H
         replace H : (if (t381 == x369000_2 && (t382 == x369001_2)) = true then ((cost_Loop.f k2 (wrap64 (a0)) 300 (wrap64 (Int.tmod a1 4097)) false).bind fun bt383 => (some (bt383.1 == x346000_1 && (bt383.2 == x346001_1)))) else (none)) = some r := H
         have A56 := am A560
         clear A560
         by_cases c57 : (t381 == x369000_2 && (t382 == x369001_2)) = true
         ·rw [if_pos c57] at H
          have c57b0 : (t381 == x369000_2 && (t382 == x369001_2)) = true := c57
          (try (have c57b1 : decide (t381 = x369000_2 && (t382 == x369001_2)) = true := by simpa using c57))
          (try (have c57b2 : (t381 == x369000_2 && (t382 == x369001_2)) = true := by simpa using c57))
          clear c57
          replace H := Option.bind_eq_some_iff.mp H
          obtain ⟨⟨t383, t384⟩, A580, H⟩ := H
          replace H : (some (t383 == x346000_1 && (t384 == x346001_1))) = some r := H
          have A58 := am A580
          clear A580
          obtain rfl := Option.some.inj H
          try go_wp2
          have n0_ := am (bD BK345.out)
          have n1_ := am (bD BK368.out)
          have n2_ := am (lD HB.out)
          clear BK345
          clear BK368
          clear HB
          have BK345 := n0_
          have BK368 := n1_
          have HB := n2_
          clear n0_ n1_ n2_
          refine start_ (n := 30) (S := fun w' => w'.cell? ⟨gb345, 0, none⟩ = some (.int .i64 x346000_1) ∧ w'.cell? ⟨gb345, 1, none⟩ = some (.int .i64 x346001_1) ∧ w'.cell? ⟨gb368, 0, none⟩ = some (.int .i64 x369000_2) ∧ w'.cell? ⟨gb368, 1, none⟩ = some (.int .i64 x369001_2)) (ds := []) #[false, false, false, false, false, false, false, false, false, false, false, false, false, false, false, false, false, false, false, false, false, false, false, false, false, false, false, false, false, false] (by kernel_rfl) rfl rfl ⟨(blk_cell BK345.out 0).trans rfl, (blk_cell BK345.out 1).trans rfl, (blk_cell BK368.out 0).trans rfl, (blk_cell BK368.out 1).trans rfl⟩ (fun hHeld => ?_); refine with_tabW reredoslaw18_CostParts.tab13 reredoslaw18_CostParts.bits13 (fun HT_ HW_ => ?_)
          generalize wr.drew = w59 at BK345 BK368 HB hHeld ⊢
          refine pure_ (i := 0) (N := some 46) (v := ?_) (a' := ?_) #[true, false, false, false, false, false, false, false, false, false, false, false, false, false, false, false, false, false, false, false, false, false, false, false, false, false, false, false, false, false] rfl rfl (any_of HT_.out (by kernel_rfl)) (fun _ _ _ h => h) (Or.inl ⟨by rfl, ?_⟩) ?_ ?_
          rotate_left
          ·intro w'
           go_simp
           with_reducible rfl
          rotate_left
          ·simp only [Act.put, zT, z0, zS, i64_w, i32_w]
           rfl
          refine pure_ (i := 1) (N := some 47) (v := ?_) (a' := ?_) #[true, true, false, false, false, false, false, false, false, false, false, false, false, false, false, false, false, false, false, false, false, false, false, false, false, false, false, false, false, false] rfl rfl (any_of HT_.out (by kernel_rfl)) (fun _ _ _ h => h) (Or.inl ⟨by rfl, ?_⟩) ?_ ?_
          rotate_left
          ·intro w'
           go_simp
           with_reducible rfl
          rotate_left
          ·simp only [Act.put, zT, z0, zS, i64_w, i32_w]
           rfl
          refine pure_ (i := 2) (N := some 48) (v := ?_) (a' := ?_) #[true, true, true, false, false, false, false, false, false, false, false, false, false, false, false, false, false, false, false, false, false, false, false, false, false, false, false, false, false, false] rfl rfl (any_of HT_.out (by kernel_rfl)) (fun _ _ _ h => h) (Or.inl ⟨by rfl, ?_⟩) ?_ ?_
          rotate_left
          ·intro w'
           go_simp
           with_reducible rfl
          rotate_left
          ·simp only [Act.put, zT, z0, zS, i64_w, i32_w]
           rfl
          refine pure_ (i := 3) (N := some 49) (v := ?_) (a' := ?_) #[true, true, true, true, false, false, false, false, false, false, false, false, false, false, false, false, false, false, false, false, false, false, false, false, false, false, false, false, false, false] rfl rfl (any_of HT_.out (by kernel_rfl)) (fun _ _ _ h => h) (Or.inl ⟨by rfl, ?_⟩) ?_ ?_
          rotate_left
          ·intro w'
           go_simp
           with_reducible rfl
          rotate_left
          ·simp only [Act.put, zT, z0, zS, i64_w, i32_w]
           rfl
          refine pure_ (i := 4) (N := some 50) (v := ?_) (a' := ?_) #[true, true, true, true, true, false, false, false, false, false, false, false, false, false, false, false, false, false, false, false, false, false, false, false, false, false, false, false, false, false] rfl rfl (any_of HT_.out (by kernel_rfl)) (fun _ _ _ h => h) (Or.inl ⟨by rfl, ?_⟩) ?_ ?_
          rotate_left
          ·intro w'
           go_simp
           with_reducible rfl
          rotate_left
          ·simp only [Act.put, zT, z0, zS, i64_w, i32_w]
           rfl
          refine pure_ (i := 5) (N := some 51) (v := ?_) (a' := ?_) #[true, true, true, true, true, true, false, false, false, false, false, false, false, false, false, false, false, false, false, false, false, false, false, false, false, false, false, false, false, false] rfl rfl (any_of HT_.out (by kernel_rfl)) (fun _ _ _ h => h) (Or.inl ⟨by rfl, ?_⟩) ?_ ?_
          rotate_left
          ·intro w'
           go_simp
           with_reducible rfl
          rotate_left
          ·simp only [Act.put, zT, z0, zS, i64_w, i32_w]
           rfl
          refine pure_ (i := 6) (N := some 52) (v := ?_) (a' := ?_) #[true, true, true, true, true, true, true, false, false, false, false, false, false, false, false, false, false, false, false, false, false, false, false, false, false, false, false, false, false, false] rfl rfl (any_of HT_.out (by kernel_rfl)) (fun _ _ _ h => h) (Or.inl ⟨by rfl, ?_⟩) ?_ ?_
          rotate_left
          ·intro w'
           go_simp
           with_reducible rfl
          rotate_left
          ·simp only [Act.put, zT, z0, zS, i64_w, i32_w]
           rfl
          refine take_ (i := 8) (N := some 54) (v := ?_) (a' := ?_) #[true, true, true, true, true, true, true, false, true, false, false, false, false, false, false, false, false, false, false, false, false, false, false, false, false, false, false, false, false, false] rfl rfl (take_ofW HT_.out HW_.out (by kernel_rfl)) (fun _ _ _ h => h) (Or.inl ⟨by rfl, ?_⟩) hHeld ?_ ?_
          rotate_left
          ·rintro w' ⟨s0, s1, s2, s3⟩
           go_simp
           with_reducible rfl
          rotate_left
          ·simp only [Act.put, zT, z0, zS, i64_w, i32_w]
           rfl
          refine one_ (i := 7) (N := some 53) #[true, true, true, true, true, true, true, true, true, false, false, false, false, false, false, false, false, false, false, false, false, false, false, false, false, false, false, false, false, false] rfl rfl (one_of HT_.out (by kernel_rfl)) (by decide) (fun K hK => ?_)
          refine goes_ Try.func28 (by kernel_rfl) rfl #[.int .i64 (wrap64 (a0)), .int .i64 (wrap64 (a0)), .int .i64 (wrap64 (Int.tmod a1 4097)), .bool false] (by rfl) rfl rfl (by (try simp only [List.map_toArray, List.map_cons, List.map_nil]); first | done | rfl | (simp only [List.length_drop, List.length_take]; rfl)) ?_
          with_reducible refine (cost_Loop.calls k2 (wrap64 (a0)) (wrap64 (a0)) (wrap64 (Int.tmod a1 4097)) false t379 t380 _ A54.out).mono ?_
          rintro e w60 ⟨rfl, hb⟩
          refine ⟨_, rfl, ?_⟩
          have n0_ := am (bB (g := gb345) (o := .cells #[.int .i64 x346000_1, .int .i64 x346001_1] 26 (0, 0)) (by (with_reducible repeat (first | refine bN ?_ _ | refine bD ?_ | refine bA ?_ _)); exact BK345.out) hb)
          have n1_ := am (bB (g := gb368) (o := .cells #[.int .i64 x369000_2, .int .i64 x369001_2] 26 (0, 0)) (by (with_reducible repeat (first | refine bN ?_ _ | refine bD ?_ | refine bA ?_ _)); exact BK368.out) hb)
          have n2_ := am (below_step (by repeat (first | (with_reducible first | exact HB.out | apply lA | apply lN | apply lD | refine below_set ?_ GE345.out | refine below_set ?_ GE368.out) | exact HB.out)) hb)
          clear BK345
          clear BK368
          clear HB
          have BK345 := n0_
          have BK368 := n1_
          have HB := n2_
          clear n0_ n1_ n2_
          (try clear hb)
          (try clear hb2)
          (try clear hk)
          (try clear hi)
          refine hK.out _ _ ⟨(blk_cell BK345.out 0).trans rfl, (blk_cell BK345.out 1).trans rfl, (blk_cell BK368.out 0).trans rfl, (blk_cell BK368.out 1).trans rfl⟩ (fun hHeld => ?_)
          clear hK K
          refine norm_ (a' := ?_) ?_ ?_
          rotate_left
          ·show Act.put _ (some 53) _ = _
           simp only [Act.put, zT, z0, zS, i64_w, i32_w]
           rfl
          refine pure_ (i := 9) (N := some 55) (v := ?_) (a' := ?_) #[true, true, true, true, true, true, true, true, true, true, false, false, false, false, false, false, false, false, false, false, false, false, false, false, false, false, false, false, false, false] rfl rfl (any_of HT_.out (by kernel_rfl)) (fun _ _ _ h => h) (Or.inl ⟨by rfl, ?_⟩) ?_ ?_
          rotate_left
          ·intro w'
           go_simp
           with_reducible rfl
          rotate_left
          ·simp only [Act.put, zT, z0, zS, i64_w, i32_w]
           rfl
          refine pure_ (i := 10) (N := some 56) (v := ?_) (a' := ?_) #[true, true, true, true, true, true, true, true, true, true, true, false, false, false, false, false, false, false, false, false, false, false, false, false, false, false, false, false, false, false] rfl rfl (any_of HT_.out (by kernel_rfl)) (fun _ _ _ h => h) (Or.inl ⟨by rfl, ?_⟩) ?_ ?_
          rotate_left
          ·intro w'
           go_simp
           with_reducible rfl
          rotate_left
          ·simp only [Act.put, zT, z0, zS, i64_w, i32_w]
           rfl
          refine pure_ (i := 11) (N := some 57) (v := ?_) (a' := ?_) #[true, true, true, true, true, true, true, true, true, true, true, true, false, false, false, false, false, false, false, false, false, false, false, false, false, false, false, false, false, false] rfl rfl (any_of HT_.out (by kernel_rfl)) (fun _ _ _ h => h) (Or.inl ⟨by rfl, ?_⟩) ?_ ?_
          rotate_left
          ·intro w'
           go_simp
           with_reducible rfl
          rotate_left
          ·simp only [Act.put, zT, z0, zS, i64_w, i32_w]
           rfl
          refine pure_ (i := 12) (N := some 58) (v := ?_) (a' := ?_) #[true, true, true, true, true, true, true, true, true, true, true, true, true, false, false, false, false, false, false, false, false, false, false, false, false, false, false, false, false, false] rfl rfl (any_of HT_.out (by kernel_rfl)) (fun _ _ _ h => h) (Or.inl ⟨by rfl, ?_⟩) ?_ ?_
          rotate_left
          ·intro w'
           go_simp
           with_reducible rfl
          rotate_left
          ·simp only [Act.put, zT, z0, zS, i64_w, i32_w]
           rfl
          refine pure_ (i := 13) (N := some 59) (v := ?_) (a' := ?_) #[true, true, true, true, true, true, true, true, true, true, true, true, true, true, false, false, false, false, false, false, false, false, false, false, false, false, false, false, false, false] rfl rfl (any_of HT_.out (by kernel_rfl)) (fun _ _ _ h => h) (Or.inl ⟨by rfl, ?_⟩) ?_ ?_
          rotate_left
          ·intro w'
           go_simp
           with_reducible rfl
          rotate_left
          ·simp only [Act.put, zT, z0, zS, i64_w, i32_w]
           rfl
          refine pure_ (i := 14) (N := some 60) (v := ?_) (a' := ?_) #[true, true, true, true, true, true, true, true, true, true, true, true, true, true, true, false, false, false, false, false, false, false, false, false, false, false, false, false, false, false] rfl rfl (any_of HT_.out (by kernel_rfl)) (fun _ _ _ h => h) (Or.inl ⟨by rfl, ?_⟩) ?_ ?_
          rotate_left
          ·intro w'
           go_simp
           with_reducible rfl
          rotate_left
          ·simp only [Act.put, zT, z0, zS, i64_w, i32_w]
           rfl
          refine pure_ (i := 15) (N := some 61) (v := ?_) (a' := ?_) #[true, true, true, true, true, true, true, true, true, true, true, true, true, true, true, true, false, false, false, false, false, false, false, false, false, false, false, false, false, false] rfl rfl (any_of HT_.out (by kernel_rfl)) (fun _ _ _ h => h) (Or.inl ⟨by rfl, ?_⟩) ?_ ?_
          rotate_left
          ·intro w'
           go_simp
           with_reducible rfl
          rotate_left
          ·simp only [Act.put, zT, z0, zS, i64_w, i32_w]
           rfl
          refine pure_ (i := 16) (N := some 62) (v := ?_) (a' := ?_) #[true, true, true, true, true, true, true, true, true, true, true, true, true, true, true, true, true, false, false, false, false, false, false, false, false, false, false, false, false, false] rfl rfl (any_of HT_.out (by kernel_rfl)) (fun _ _ _ h => h) (Or.inl ⟨by rfl, ?_⟩) ?_ ?_
          rotate_left
          ·intro w'
           go_simp
           with_reducible rfl
          rotate_left
          ·simp only [Act.put, zT, z0, zS, i64_w, i32_w]
           rfl
          refine take_ (i := 18) (N := some 64) (v := ?_) (a' := ?_) #[true, true, true, true, true, true, true, true, true, true, true, true, true, true, true, true, true, false, true, false, false, false, false, false, false, false, false, false, false, false] rfl rfl (take_ofW HT_.out HW_.out (by kernel_rfl)) (fun _ _ _ h => h) (Or.inl ⟨by rfl, ?_⟩) hHeld ?_ ?_
          rotate_left
          ·rintro w' ⟨s0, s1, s2, s3⟩
           go_simp
           with_reducible rfl
          rotate_left
          ·simp only [Act.put, zT, z0, zS, i64_w, i32_w]
           rfl
          refine one_ (i := 17) (N := some 63) #[true, true, true, true, true, true, true, true, true, true, true, true, true, true, true, true, true, true, true, false, false, false, false, false, false, false, false, false, false, false] rfl rfl (one_of HT_.out (by kernel_rfl)) (by decide) (fun K hK => ?_)
          refine goes_ Try.func28 (by kernel_rfl) rfl #[.int .i64 (wrap64 (a0)), .int .i64 (wrap64 (a0)), .int .i64 (wrap64 (Int.tmod a1 4097)), .bool true] (by rfl) rfl rfl (by (try simp only [List.map_toArray, List.map_cons, List.map_nil]); first | done | rfl | (simp only [List.length_drop, List.length_take]; rfl)) ?_
          with_reducible refine (cost_Loop.calls k2 (wrap64 (a0)) (wrap64 (a0)) (wrap64 (Int.tmod a1 4097)) true t381 t382 _ A56.out).mono ?_
          rintro e w61 ⟨rfl, hb⟩
          refine ⟨_, rfl, ?_⟩
          have n0_ := am (bB (g := gb345) (o := .cells #[.int .i64 x346000_1, .int .i64 x346001_1] 26 (0, 0)) (by (with_reducible repeat (first | refine bN ?_ _ | refine bD ?_ | refine bA ?_ _)); exact BK345.out) hb)
          have n1_ := am (bB (g := gb368) (o := .cells #[.int .i64 x369000_2, .int .i64 x369001_2] 26 (0, 0)) (by (with_reducible repeat (first | refine bN ?_ _ | refine bD ?_ | refine bA ?_ _)); exact BK368.out) hb)
          have n2_ := am (below_step (by repeat (first | (with_reducible first | exact HB.out | apply lA | apply lN | apply lD | refine below_set ?_ GE345.out | refine below_set ?_ GE368.out) | exact HB.out)) hb)
          clear BK345
          clear BK368
          clear HB
          have BK345 := n0_
          have BK368 := n1_
          have HB := n2_
          clear n0_ n1_ n2_
          (try clear hb)
          (try clear hb2)
          (try clear hk)
          (try clear hi)
          refine hK.out _ _ ⟨(blk_cell BK345.out 0).trans rfl, (blk_cell BK345.out 1).trans rfl, (blk_cell BK368.out 0).trans rfl, (blk_cell BK368.out 1).trans rfl⟩ (fun hHeld => ?_)
          clear hK K
          refine norm_ (a' := ?_) ?_ ?_
          rotate_left
          ·show Act.put _ (some 63) _ = _
           simp only [Act.put, zT, z0, zS, i64_w, i32_w]
           rfl
          refine pure_ (i := 19) (N := some 65) (v := ?_) (a' := ?_) #[true, true, true, true, true, true, true, true, true, true, true, true, true, true, true, true, true, true, true, true, false, false, false, false, false, false, false, false, false, false] rfl rfl (any_of HT_.out (by kernel_rfl)) (fun _ _ _ h => h) (Or.inl ⟨by rfl, ?_⟩) ?_ ?_
          rotate_left
          ·intro w'
           go_simp
           with_reducible rfl
          rotate_left
          ·simp only [Act.put, zT, z0, zS, i64_w, i32_w]
           rfl
          refine pure_ (i := 20) (N := some 66) (v := ?_) (a' := ?_) #[true, true, true, true, true, true, true, true, true, true, true, true, true, true, true, true, true, true, true, true, true, false, false, false, false, false, false, false, false, false] rfl rfl (any_of HT_.out (by kernel_rfl)) (fun _ _ _ h => h) (Or.inl ⟨by rfl, ?_⟩) ?_ ?_
          rotate_left
          ·intro w'
           go_simp
           with_reducible rfl
          rotate_left
          ·simp only [Act.put, zT, z0, zS, i64_w, i32_w]
           rfl
          refine pure_ (i := 21) (N := some 67) (v := ?_) (a' := ?_) #[true, true, true, true, true, true, true, true, true, true, true, true, true, true, true, true, true, true, true, true, true, true, false, false, false, false, false, false, false, false] rfl rfl (any_of HT_.out (by kernel_rfl)) (fun _ _ _ h => h) (Or.inl ⟨by rfl, ?_⟩) ?_ ?_
          rotate_left
          ·intro w'
           go_simp
           with_reducible rfl
          rotate_left
          ·simp only [Act.put, zT, z0, zS, i64_w, i32_w]
           rfl
          refine pure_ (i := 22) (N := some 68) (v := ?_) (a' := ?_) #[true, true, true, true, true, true, true, true, true, true, true, true, true, true, true, true, true, true, true, true, true, true, true, false, false, false, false, false, false, false] rfl rfl (any_of HT_.out (by kernel_rfl)) (fun _ _ _ h => h) (Or.inl ⟨by rfl, ?_⟩) ?_ ?_
          rotate_left
          ·intro w'
           go_simp
           with_reducible rfl
          rotate_left
          ·simp only [Act.put, zT, z0, zS, i64_w, i32_w]
           rfl
          refine pure_ (i := 23) (N := some 69) (v := ?_) (a' := ?_) #[true, true, true, true, true, true, true, true, true, true, true, true, true, true, true, true, true, true, true, true, true, true, true, true, false, false, false, false, false, false] rfl rfl (any_of HT_.out (by kernel_rfl)) (fun _ _ _ h => h) (Or.inl ⟨by rfl, ?_⟩) ?_ ?_
          rotate_left
          ·intro w'
           go_simp
           with_reducible rfl
          rotate_left
          ·simp only [Act.put, zT, z0, zS, i64_w, i32_w]
           rfl
          refine pure_ (i := 24) (N := some 70) (v := ?_) (a' := ?_) #[true, true, true, true, true, true, true, true, true, true, true, true, true, true, true, true, true, true, true, true, true, true, true, true, true, false, false, false, false, false] rfl rfl (any_of HT_.out (by kernel_rfl)) (fun _ _ _ h => h) (Or.inl ⟨by rfl, ?_⟩) ?_ ?_
          rotate_left
          ·intro w'
           go_simp
           with_reducible rfl
          rotate_left
          ·simp only [Act.put, zT, z0, zS, i64_w, i32_w]
           rfl
          refine take_ (i := 26) (N := some 72) (v := ?_) (a' := ?_) #[true, true, true, true, true, true, true, true, true, true, true, true, true, true, true, true, true, true, true, true, true, true, true, true, true, false, true, false, false, false] rfl rfl (take_ofW HT_.out HW_.out (by kernel_rfl)) (fun _ _ _ h => h) (Or.inl ⟨by rfl, ?_⟩) hHeld ?_ ?_
          rotate_left
          ·rintro w' ⟨s0, s1, s2, s3⟩
           go_simp
           with_reducible rfl
          rotate_left
          ·simp only [Act.put, zT, z0, zS, i64_w, i32_w]
           rfl
          refine one_ (i := 25) (N := some 71) #[true, true, true, true, true, true, true, true, true, true, true, true, true, true, true, true, true, true, true, true, true, true, true, true, true, true, true, false, false, false] rfl rfl (one_of HT_.out (by kernel_rfl)) (by decide) (fun K hK => ?_)
          refine goes_ Try.func28 (by kernel_rfl) rfl #[.int .i64 (wrap64 (a0)), .int .i64 300, .int .i64 (wrap64 (Int.tmod a1 4097)), .bool false] (by rfl) rfl rfl (by (try simp only [List.map_toArray, List.map_cons, List.map_nil]); first | done | rfl | (simp only [List.length_drop, List.length_take]; rfl)) ?_
          with_reducible refine (cost_Loop.calls k2 (wrap64 (a0)) 300 (wrap64 (Int.tmod a1 4097)) false t383 t384 _ A58.out).mono ?_
          rintro e w62 ⟨rfl, hb⟩
          refine ⟨_, rfl, ?_⟩
          have n0_ := am (bB (g := gb345) (o := .cells #[.int .i64 x346000_1, .int .i64 x346001_1] 26 (0, 0)) (by (with_reducible repeat (first | refine bN ?_ _ | refine bD ?_ | refine bA ?_ _)); exact BK345.out) hb)
          have n1_ := am (bB (g := gb368) (o := .cells #[.int .i64 x369000_2, .int .i64 x369001_2] 26 (0, 0)) (by (with_reducible repeat (first | refine bN ?_ _ | refine bD ?_ | refine bA ?_ _)); exact BK368.out) hb)
          have n2_ := am (below_step (by repeat (first | (with_reducible first | exact HB.out | apply lA | apply lN | apply lD | refine below_set ?_ GE345.out | refine below_set ?_ GE368.out) | exact HB.out)) hb)
          clear BK345
          clear BK368
          clear HB
          have BK345 := n0_
          have BK368 := n1_
          have HB := n2_
          clear n0_ n1_ n2_
          (try clear hb)
          (try clear hb2)
          (try clear hk)
          (try clear hi)
          refine hK.out _ _ ⟨(blk_cell BK345.out 0).trans rfl, (blk_cell BK345.out 1).trans rfl, (blk_cell BK368.out 0).trans rfl, (blk_cell BK368.out 1).trans rfl⟩ (fun hHeld => ?_)
          clear hK K
          refine norm_ (a' := ?_) ?_ ?_
          rotate_left
          ·show Act.put _ (some 71) _ = _
           simp only [Act.put, zT, z0, zS, i64_w, i32_w]
           rfl
          refine pure_ (i := 27) (N := some 73) (v := ?_) (a' := ?_) #[true, true, true, true, true, true, true, true, true, true, true, true, true, true, true, true, true, true, true, true, true, true, true, true, true, true, true, true, false, false] rfl rfl (any_of HT_.out (by kernel_rfl)) (fun _ _ _ h => h) (Or.inl ⟨by rfl, ?_⟩) ?_ ?_
          rotate_left
          ·intro w'
           go_simp
           with_reducible rfl
          rotate_left
          ·simp only [Act.put, zT, z0, zS, i64_w, i32_w]
           rfl
          refine pure_ (i := 28) (N := some 74) (v := ?_) (a' := ?_) #[true, true, true, true, true, true, true, true, true, true, true, true, true, true, true, true, true, true, true, true, true, true, true, true, true, true, true, true, true, false] rfl rfl (any_of HT_.out (by kernel_rfl)) (fun _ _ _ h => h) (Or.inl ⟨by rfl, ?_⟩) ?_ ?_
          rotate_left
          ·intro w'
           go_simp
           with_reducible rfl
          rotate_left
          ·simp only [Act.put, zT, z0, zS, i64_w, i32_w]
           rfl
          refine pure_ (i := 29) (N := some 4) (v := ?_) (a' := ?_) #[true, true, true, true, true, true, true, true, true, true, true, true, true, true, true, true, true, true, true, true, true, true, true, true, true, true, true, true, true, true] rfl rfl (any_of HT_.out (by kernel_rfl)) (fun _ _ _ h => h) (Or.inl ⟨by rfl, ?_⟩) ?_ ?_
          rotate_left
          ·intro w'
           go_simp
           with_reducible rfl
          rotate_left
          ·simp only [Act.put, zT, z0, zS, i64_w, i32_w]
           rfl
          refine done_ (done_of HT_.out (by kernel_rfl)) ?_
          try go_wp2
          go_ret
          exact ⟨by first | rfl | (simp [errW_none, errW_some] <;> rfl) | (simp [*, errW_none, errW_some] <;> rfl), by repeat (first | (with_reducible first | exact HB.out | apply lA | apply lN | apply lD | refine below_set ?_ GE345.out | refine below_set ?_ GE368.out) | exact HB.out)⟩
         ·rw [if_neg c57] at H
          exact absurd H (by simp)
        ·rw [if_neg c55] at H
         exact absurd H (by simp)
       ·replace c53 := Bool.eq_false_iff.mpr c53
        subst c53
        have H1 : (none) = some r := by rw [if_neg (show ¬ (false = true) by decide)] at H; exact H
        clear H
        have H := H1
        clear H1
        exact absurd H (by simp)

/-- What is left to show of reredoslaw18_CostParts: of numbers and lists alone. -/
def reredoslaw18_CostParts.Pure : Prop := ∀ (a0 : Int) (a1 : Int), ((Lit.int .u8 a0).wf = true) → ((Lit.int .u16 a1).wf = true) → ∃ k, reredoslaw18_CostParts.f k a0 a1 = some true

end Go.Proofs.Ytphonhplgholmaa.P
