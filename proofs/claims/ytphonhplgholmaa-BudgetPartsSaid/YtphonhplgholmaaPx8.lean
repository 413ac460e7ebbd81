/- Walks, written by a program out of the translation. -/
import Derived.Test.YtphonhplgholmaaPx0
import Derived.Test.YtphonhplgholmaaPx2
import Derived.Test.YtphonhplgholmaaPx3
import Derived.Test.YtphonhplgholmaaGBase
import Derived.Test.YtphonhplgholmaaGBudget
namespace Go.Proofs.Ytphonhplgholmaa.P
open Go.RowKit Go.Proofs.YtphonhplgholmaaW.PrintWords Go.Proofs.YtphonhplgholmaaW.PrintLast Go.Proofs.YtphonhplgholmaaW.PrintMore
attribute [local go_sem] max2_int min2_int max_two min_two max_three min_three max_four min_four   -- for this text's walks alone
set_option linter.unusedVariables false
set_option linter.unusedSimpArgs false

attribute [local go_sem high] eqA26
/-! ### reredoslaw06_BudgetParts: function 6 -/
def reredoslaw06_BudgetParts.l0 : Nat → List Int → Bool → Bool → Int → Int → Int → Int → Int → Int → Int → Option (Bool)
 | 0, _, _, _, _, _, _, _, _, _, _ => none
 | k + 1, x2, x7, x11, x12, x228000, x228001, x229000, x229001, x230000, x230001 => if x12 < (x2.length : Int) then (if 0 ≤ x12 then ((budget_Sum.f (([(⟨x230000, x230001⟩ : S26), (⟨wrap64 (rd x2 x12), wrap64 (Int.tdiv (wrap64 (rd x2 x12)) 3)⟩ : S26)] : List (S26)))).bind fun bt242 => (if x11 = true then ((budget_Budget_Pay.f x229000 x229001 (wrap64 (rd x2 x12)) (wrap64 (Int.tdiv (wrap64 (rd x2 x12)) 3))).bind fun bt244 => (if bt244.2.2 = 0 then (reredoslaw06_BudgetParts.l0 k x2 x7 (bt244.2.2 == 0) (wrap64 (x12 + 1)) x228000 x228001 bt244.1 bt244.2.1 bt242.1 bt242.2) else (reredoslaw06_BudgetParts.l0 k x2 x7 (bt244.2.2 == 0) (wrap64 (x12 + 1)) x228000 x228001 x229000 x229001 bt242.1 bt242.2))) else (reredoslaw06_BudgetParts.l0 k x2 x7 x11 (wrap64 (x12 + 1)) x228000 x228001 x229000 x229001 bt242.1 bt242.2))) else (none)) else ((budget_Budget_Pay.f x228000 x228001 x230000 x230001).bind fun bt230 => (if x7 = true then (if ((bt230.2.2 == 0) == x11) = true then (if x11 = true then (if (bt230.1 == x229000 && (bt230.2.1 == x229001)) = true then ((budget_Budget_Can.f x228000 x228001 x230000 x230001).bind fun t234 => (some (t234 == x11))) else (none)) else ((budget_Budget_Can.f x228000 x228001 x230000 x230001).bind fun t235 => (some (t235 == x11)))) else (none)) else (none)))
def reredoslaw06_BudgetParts.f (k : Nat) (a0 : Int) (a1 : Int) (l2 : List Int) : Option (Bool) := (reredoslaw06_shown.f).bind fun t224 => (if (l2.length : Int) > 200 then (some t224) else ((budget_New.f (wrap64 (a0)) (wrap64 (a1))).bind fun bt225 => (reredoslaw06_BudgetParts.l0 k l2 t224 true 0 bt225.1 bt225.2 bt225.1 bt225.2 0 0)))
theorem reredoslaw06_BudgetParts.mono_l : ∀ k, (∀ y0 y1 y2 y3 y4 y5 y6 y7 y8 y9, LeO (reredoslaw06_BudgetParts.l0 k y0 y1 y2 y3 y4 y5 y6 y7 y8 y9) (reredoslaw06_BudgetParts.l0 (k + 1) y0 y1 y2 y3 y4 y5 y6 y7 y8 y9))
 | 0 => fun _ _ _ _ _ _ _ _ _ _ r h => by simp [reredoslaw06_BudgetParts.l0] at h
 | k + 1 => by
  have ih0 := reredoslaw06_BudgetParts.mono_l k
  ·intro y0 y1 y2 y3 y4 y5 y6 y7 y8 y9
   unfold reredoslaw06_BudgetParts.l0
   repeat' first
   | (with_reducible exact ih0 _ _ _ _ _ _ _ _ _ _)
   | (with_reducible exact LeO.refl _)
   | (with_reducible exact LeO.none _)
   | (with_reducible refine LeO.ite ?_ ?_)
   | (with_reducible refine LeO.bind ?_ (fun _ => ?_))
   | exact ih0 _ _ _ _ _ _ _ _ _ _
   | exact LeO.none _
   | refine LeO.ite ?_ ?_
   | refine LeO.bind ?_ (fun _ => ?_)
theorem reredoslaw06_BudgetParts.mono : ∀ a0 a1 a2 k, LeO (reredoslaw06_BudgetParts.f k a0 a1 a2) (reredoslaw06_BudgetParts.f (k + 1) a0 a1 a2) := by
 intro a0 a1 a2 k
 have ih0 := reredoslaw06_BudgetParts.mono_l k
 unfold reredoslaw06_BudgetParts.f
 repeat' first
   | (with_reducible exact ih0 _ _ _ _ _ _ _ _ _ _)
   | (with_reducible exact LeO.refl _)
   | (with_reducible exact LeO.none _)
   | (with_reducible refine LeO.ite ?_ ?_)
   | (with_reducible refine LeO.bind ?_ (fun _ => ?_))
   | exact ih0 _ _ _ _ _ _ _ _ _ _
   | exact LeO.none _
   | refine LeO.ite ?_ ?_
   | refine LeO.bind ?_ (fun _ => ?_)
def reredoslaw06_BudgetParts.T11 : Bool × List (List Nat × List Nat) := (true, [([], []), ([], []), ([0, 1], [0, 1]), ([2], [2]), ([3], [3]), ([], []), ([], []), ([5, 6], [5, 6]), ([7], [7]), ([8], [8]), ([9], [9]), ([4, 10], [4, 10]), ([], []), ([12, 11, 0, 1, 2, 3, 4, 5, 6, 7, 8, 9, 10, 11, 12], [11, 12])])
def reredoslaw06_BudgetParts.B11 : List Nat := [0, 0, 3, 7, 15, 0, 0, 96, 224, 480, 992, 2047, 0, 8191]
theorem reredoslaw06_BudgetParts.tab11 : rtab .any (opsOf Try.f6 11) = reredoslaw06_BudgetParts.T11 := by kernel_rfl
theorem reredoslaw06_BudgetParts.bits11 : waitsOk reredoslaw06_BudgetParts.T11.2 reredoslaw06_BudgetParts.B11 = true := by kernel_rfl
set_option maxHeartbeats 8000000 in
set_option maxRecDepth 100000 in
theorem reredoslaw06_BudgetParts.calls (k : Nat) (a0 : Int) (a1 : Int) (A2 : Option Addr) (c2 : Nat) (l2 : List Int) (r : Bool) (w : World) (hr2 : Kd.C (Kd.int .u16) w A2 l2.length l2) (hc2 : l2.length ≤ c2) (h : reredoslaw06_BudgetParts.f k a0 a1 l2 = some r) :
  Calls Try.prog 6 #[.int .u32 a0, .int .u32 a1, .slice A2 l2.length c2] w fun e w' => e = .returned (.bool r) ∧ Below w.heap.size w w' := by
 have hu26 := Try.underlying26
 have HR2 := am hr2
 have HC2 := am hc2
 clear hr2 hc2
 have HB := am (Below.refl w.heap.size w)
 have H : ((reredoslaw06_shown.f).bind fun t224 => (if (l2.length : Int) > 200 then (some t224) else ((budget_New.f (wrap64 (a0)) (wrap64 (a1))).bind fun bt225 => (reredoslaw06_BudgetParts.l0 k l2 t224 true 0 bt225.1 bt225.2 bt225.1 bt225.2 0 0)))) = some r := h
 clear h
 replace H := Option.bind_eq_some_iff.mp H
 obtain ⟨t224, A40, H⟩ := H
 replace H : (if (l2.length : Int) > 200 then (some t224) else ((budget_New.f (wrap64 (a0)) (wrap64 (a1))).bind fun bt225 => (reredoslaw06_BudgetParts.l0 k l2 t224 true 0 bt225.1 bt225.2 bt225.1 bt225.2 0 0))) = some r := H
 have A4 := am A40
 clear A40
 by_cases c5 : (l2.length : Int) > 200
 ·rw [if_pos c5] at H
  have c5b0 : decide (200 < (l2.length : Int)) = true := decide_eq_true c5
  have c5b1 : decide (200 < l2.length) = true := decide_eq_true (by omega)
  clear c5
  obtain rfl := Option.some.inj H
  go_enter Try.func6, Try.ntmps6
  go_wp2_with (first | ((with_reducible refine gate_callee (f := 12) rfl ?_); refine goesL_ (some 18) rfl rfl Try.func12 (by kernel_rfl) rfl #[] rfl (by (try simp only [List.map_toArray, List.map_cons, List.map_nil]); first | done | rfl | (simp only [List.length_drop, List.length_take]; rfl)) ?_; (with_reducible refine (reredoslaw06_shown.calls  t224 _ A4.out).mono ?_); rintro e w6 ⟨rfl, hb⟩; refine ⟨_, rfl, ?_⟩; have n0_ := am (below_step (by repeat (first | (with_reducible first | exact HB.out | apply lA | apply lN | apply lD) | exact HB.out)) hb); clear HB; have HB := n0_; clear n0_; (try clear hb); (try clear hb2); (try clear hk); (try clear hi)))
  go_ret
  exact ⟨by first | rfl | (simp [errW_none, errW_some] <;> rfl) | (simp [*, errW_none, errW_some] <;> rfl), by repeat (first | (with_reducible first | exact HB.out | apply lA | apply lN | apply lD) | exact HB.out)⟩
 ·rw [if_neg c5] at H
  have c5b0 : decide (200 < (l2.length : Int)) = false := decide_eq_false c5
  have c5b1 : decide (200 < l2.length) = false := decide_eq_false (by omega)
  clear c5
  replace H := Option.bind_eq_some_iff.mp H
  obtain ⟨⟨t225, t226⟩, A70, H⟩ := H
  replace H : (reredoslaw06_BudgetParts.l0 k l2 t224 true 0 t225 t226 t225 t226 0 0) = some r := H
  have A7 := am A70
  clear A70
  have H' := am H
  clear H
  go_enter Try.func6, Try.ntmps6
  go_wp2_with (first | ((with_reducible refine gate_callee (f := 12) rfl ?_); refine goesL_ (some 18) rfl rfl Try.func12 (by kernel_rfl) rfl #[] rfl (by (try simp only [List.map_toArray, List.map_cons, List.map_nil]); first | done | rfl | (simp only [List.length_drop, List.length_take]; rfl)) ?_; (with_reducible refine (reredoslaw06_shown.calls  t224 _ A4.out).mono ?_); rintro e w8 ⟨rfl, hb⟩; refine ⟨_, rfl, ?_⟩; have n0_ := am (below_step (by repeat (first | (with_reducible first | exact HB.out | apply lA | apply lN | apply lD) | exact HB.out)) hb); clear HB; have HB := n0_; clear n0_; (try clear hb); (try clear hb2); (try clear hk); (try clear hi)) | ((with_reducible refine gate_callee (f := 13) rfl ?_); refine goesL_ (some 27) rfl rfl Try.func13 (by kernel_rfl) rfl #[.int .i64 (wrap64 (a0)), .int .i64 (wrap64 (a1))] rfl (by (try simp only [List.map_toArray, List.map_cons, List.map_nil]); first | done | rfl | (simp only [List.length_drop, List.length_take]; rfl)) ?_; (with_reducible refine (budget_New.calls (wrap64 (a0)) (wrap64 (a1)) t225 t226 _ A7.out).mono ?_); rintro e w9 ⟨rfl, hb⟩; refine ⟨_, rfl, ?_⟩; have n0_ := am (below_step (by repeat (first | (with_reducible first | exact HB.out | apply lA | apply lN | apply lD) | exact HB.out)) hb); clear HB; have HB := n0_; clear n0_; (try clear hb); (try clear hb2); (try clear hk); (try clear hi)) | ((with_reducible refine gate_dst (N := 8) rfl ?_); refine box_event ?hg (N := 8) ?hd (cs := #[.int .i64 0, .int .i64 0]) (t := 26) ?hr ?_; (case hd => rfl); (case hg => rfl); (case hr => first | (go_simp; done) | (go_simp; rfl)); intro gb227 hg w10 hbox hb; have n0_ := am (below_step (by repeat (first | (with_reducible first | exact HB.out | apply lA | apply lN | apply lD) | exact HB.out)) hb); have n1_ := am (hbox); have n2_ := am ((by rw [hg]; exact (below_size (by repeat (first | (with_reducible first | exact HB.out | apply lA | apply lN | apply lD) | exact HB.out))) : w.heap.size ≤ gb227)); have n3_ := n2_; clear HB; have HB := n0_; have BK227 := n1_; have GW227 := n2_; have GE227 := n3_; clear n0_ n1_ n2_ n3_; clear hb hbox hg; have hcz11_0 : w10.cell? ⟨gb227, 0, none⟩ = some (.int .i64 0) := (blk_cell BK227.out 0).trans rfl; have hcz11_1 : w10.cell? ⟨gb227, 1, none⟩ = some (.int .i64 0) := (blk_cell BK227.out 1).trans rfl; have hfz11_0 := blk_frozen BK227.out 0; have hfz11_1 := blk_frozen BK227.out 1) | ((with_reducible refine gate_dst (N := 9) rfl ?_); refine box_event ?hg (N := 9) ?hd (cs := #[.int .i64 0, .int .i64 0]) (t := 26) ?hr ?_; (case hd => rfl); (case hg => rfl); (case hr => first | (go_simp; done) | (go_simp; rfl)); intro gb228 hg w12 hbox hb; have n0_ := am (bB (g := gb227) (o := .cells #[.int .i64 t225, .int .i64 t226] 26 (0, 0)) (by (with_reducible repeat (first | refine bN ?_ _ | refine bD ?_ | refine bA ?_ _)); refine blk_put (cs := #[.int .i64 t225, .int .i64 0]) ?_ 1 _ rfl; (with_reducible repeat (first | refine bN ?_ _ | refine bD ?_ | refine bA ?_ _)); refine blk_put (cs := #[.int .i64 0, .int .i64 0]) ?_ 0 _ rfl; (with_reducible repeat (first | refine bN ?_ _ | refine bD ?_ | refine bA ?_ _)); exact BK227.out) hb); have n1_ := am (below_step (by repeat (first | (with_reducible first | exact HB.out | apply lA | apply lN | apply lD | refine below_set ?_ GE227.out) | exact HB.out)) hb); have n2_ := am (hbox); have n3_ := am ((by rw [hg]; exact (below_size (by repeat (first | (with_reducible first | exact HB.out | apply lA | apply lN | apply lD | refine below_set ?_ GE227.out) | exact HB.out))) : w.heap.size ≤ gb228)); have n4_ := n3_; have n5_ := am ((by rw [hg]; exact Nat.ne_of_lt (blk_lt (g := gb227) (o := .cells #[.int .i64 t225, .int .i64 t226] 26 (0, 0)) (by (with_reducible repeat (first | refine bN ?_ _ | refine bD ?_ | refine bA ?_ _)); refine blk_put (cs := #[.int .i64 t225, .int .i64 0]) ?_ 1 _ rfl; (with_reducible repeat (first | refine bN ?_ _ | refine bD ?_ | refine bA ?_ _)); refine blk_put (cs := #[.int .i64 0, .int .i64 0]) ?_ 0 _ rfl; (with_reducible repeat (first | refine bN ?_ _ | refine bD ?_ | refine bA ?_ _)); exact BK227.out)) : gb227 ≠ gb228)); have n6_ := am ((by rw [hg]; exact Nat.ne_of_gt (blk_lt (g := gb227) (o := .cells #[.int .i64 t225, .int .i64 t226] 26 (0, 0)) (by (with_reducible repeat (first | refine bN ?_ _ | refine bD ?_ | refine bA ?_ _)); refine blk_put (cs := #[.int .i64 t225, .int .i64 0]) ?_ 1 _ rfl; (with_reducible repeat (first | refine bN ?_ _ | refine bD ?_ | refine bA ?_ _)); refine blk_put (cs := #[.int .i64 0, .int .i64 0]) ?_ 0 _ rfl; (with_reducible repeat (first | refine bN ?_ _ | refine bD ?_ | refine bA ?_ _)); exact BK227.out)) : gb228 ≠ gb227)); clear BK227; clear HB; have BK227 := n0_; have HB := n1_; have BK228 := n2_; have GW228 := n3_; have GE228 := n4_; have NB227_228 := n5_; have NB228_227 := n6_; clear n0_ n1_ n2_ n3_ n4_ n5_ n6_; clear hb hbox hg; have hnb13 := NB228_227.out; have hnc13 := NB227_228.out; have hcz14_0 : w12.cell? ⟨gb228, 0, none⟩ = some (.int .i64 0) := (blk_cell BK228.out 0).trans rfl; have hcz14_1 : w12.cell? ⟨gb228, 1, none⟩ = some (.int .i64 0) := (blk_cell BK228.out 1).trans rfl; have hfz14_0 := blk_frozen BK228.out 0; have hfz14_1 := blk_frozen BK228.out 1) | ((with_reducible refine gate_dst (N := 10) rfl ?_); refine box_event ?hg (N := 10) ?hd (cs := #[.int .i64 0, .int .i64 0]) (t := 26) ?hr ?_; (case hd => rfl); (case hg => rfl); (case hr => first | (go_simp; done) | (go_simp; rfl)); intro gb229 hg w15 hbox hb; have n0_ := am (bB (g := gb227) (o := .cells #[.int .i64 t225, .int .i64 t226] 26 (0, 0)) (by (with_reducible repeat (first | refine bN ?_ _ | refine bD ?_ | refine bA ?_ _)); refine blk_far ?_ NB227_228.out _; (with_reducible repeat (first | refine bN ?_ _ | refine bD ?_ | refine bA ?_ _)); refine blk_far ?_ NB227_228.out _; (with_reducible repeat (first | refine bN ?_ _ | refine bD ?_ | refine bA ?_ _)); exact BK227.out) hb); have n1_ := am (bB (g := gb228) (o := .cells #[.int .i64 t225, .int .i64 t226] 26 (0, 0)) (by (with_reducible repeat (first | refine bN ?_ _ | refine bD ?_ | refine bA ?_ _)); refine blk_put (cs := #[.int .i64 t225, .int .i64 0]) ?_ 1 _ rfl; (with_reducible repeat (first | refine bN ?_ _ | refine bD ?_ | refine bA ?_ _)); refine blk_put (cs := #[.int .i64 0, .int .i64 0]) ?_ 0 _ rfl; (with_reducible repeat (first | refine bN ?_ _ | refine bD ?_ | refine bA ?_ _)); exact BK228.out) hb); have n2_ := am (below_step (by repeat (first | (with_reducible first | exact HB.out | apply lA | apply lN | apply lD | refine below_set ?_ GE227.out | refine below_set ?_ GE228.out) | exact HB.out)) hb); have n3_ := am (hbox); have n4_ := am ((by rw [hg]; exact (below_size (by repeat (first | (with_reducible first | exact HB.out | apply lA | apply lN | apply lD | refine below_set ?_ GE227.out | refine below_set ?_ GE228.out) | exact HB.out))) : w.heap.size ≤ gb229)); have n5_ := n4_; have n6_ := am ((by rw [hg]; exact Nat.ne_of_lt (blk_lt (g := gb227) (o := .cells #[.int .i64 t225, .int .i64 t226] 26 (0, 0)) (by (with_reducible repeat (first | refine bN ?_ _ | refine bD ?_ | refine bA ?_ _)); refine blk_far ?_ NB227_228.out _; (with_reducible repeat (first | refine bN ?_ _ | refine bD ?_ | refine bA ?_ _)); refine blk_far ?_ NB227_228.out _; (with_reducible repeat (first | refine bN ?_ _ | refine bD ?_ | refine bA ?_ _)); exact BK227.out)) : gb227 ≠ gb229)); have n7_ := am ((by rw [hg]; exact Nat.ne_of_gt (blk_lt (g := gb227) (o := .cells #[.int .i64 t225, .int .i64 t226] 26 (0, 0)) (by (with_reducible repeat (first | refine bN ?_ _ | refine bD ?_ | refine bA ?_ _)); refine blk_far ?_ NB227_228.out _; (with_reducible repeat (first | refine bN ?_ _ | refine bD ?_ | refine bA ?_ _)); refine blk_far ?_ NB227_228.out _; (with_reducible repeat (first | refine bN ?_ _ | refine bD ?_ | refine bA ?_ _)); exact BK227.out)) : gb229 ≠ gb227)); have n8_ := am ((by rw [hg]; exact Nat.ne_of_lt (blk_lt (g := gb228) (o := .cells #[.int .i64 t225, .int .i64 t226] 26 (0, 0)) (by (with_reducible repeat (first | refine bN ?_ _ | refine bD ?_ | refine bA ?_ _)); refine blk_put (cs := #[.int .i64 t225, .int .i64 0]) ?_ 1 _ rfl; (with_reducible repeat (first | refine bN ?_ _ | refine bD ?_ | refine bA ?_ _)); refine blk_put (cs := #[.int .i64 0, .int .i64 0]) ?_ 0 _ rfl; (with_reducible repeat (first | refine bN ?_ _ | refine bD ?_ | refine bA ?_ _)); exact BK228.out)) : gb228 ≠ gb229)); have n9_ := am ((by rw [hg]; exact Nat.ne_of_gt (blk_lt (g := gb228) (o := .cells #[.int .i64 t225, .int .i64 t226] 26 (0, 0)) (by (with_reducible repeat (first | refine bN ?_ _ | refine bD ?_ | refine bA ?_ _)); refine blk_put (cs := #[.int .i64 t225, .int .i64 0]) ?_ 1 _ rfl; (with_reducible repeat (first | refine bN ?_ _ | refine bD ?_ | refine bA ?_ _)); refine blk_put (cs := #[.int .i64 0, .int .i64 0]) ?_ 0 _ rfl; (with_reducible repeat (first | refine bN ?_ _ | refine bD ?_ | refine bA ?_ _)); exact BK228.out)) : gb229 ≠ gb228)); clear BK227; clear BK228; clear HB; have BK227 := n0_; have BK228 := n1_; have HB := n2_; have BK229 := n3_; have GW229 := n4_; have GE229 := n5_; have NB227_229 := n6_; have NB229_227 := n7_; have NB228_229 := n8_; have NB229_228 := n9_; clear n0_ n1_ n2_ n3_ n4_ n5_ n6_ n7_ n8_ n9_; clear hb hbox hg; have hnb16 := NB229_227.out; have hnc16 := NB227_229.out; have hnb17 := NB229_228.out; have hnc17 := NB228_229.out; have hcz18_0 : w15.cell? ⟨gb229, 0, none⟩ = some (.int .i64 0) := (blk_cell BK229.out 0).trans rfl; have hcz18_1 : w15.cell? ⟨gb229, 1, none⟩ = some (.int .i64 0) := (blk_cell BK229.out 1).trans rfl; have hfz18_0 := blk_frozen BK229.out 0; have hfz18_1 := blk_frozen BK229.out 1))
  go_loopg [11, 12] k (fun kq v11 v12 w' => ∃ (x11_1 : Bool) (x12_1 : Int) (x229000_1 : Int) (x229001_1 : Int) (x230000_1 : Int) (x230001_1 : Int), v11 = .bool x11_1 ∧ v12 = .int .i64 x12_1 ∧ Aside0 (reredoslaw06_BudgetParts.l0 kq l2 t224 x11_1 x12_1 t225 t226 x229000_1 x229001_1 x230000_1 x230001_1 = some r) ∧ Aside0 (kq ≤ k) ∧ Aside0 (w'.heap[gb227]? = some (.cells #[.int .i64 t225, .int .i64 t226] 26 (0, 0))) ∧ Aside0 (w'.heap[gb228]? = some (.cells #[.int .i64 x229000_1, .int .i64 x229001_1] 26 (0, 0))) ∧ Aside0 (w'.heap[gb229]? = some (.cells #[.int .i64 x230000_1, .int .i64 x230001_1] 26 (0, 0))) ∧ Aside0 (Below w.heap.size w w'))
  case atStart => exact ⟨(true), (0), (t225), (t226), (0), (0), (by first | rfl | (simp; done) | (simp [*]; done)), (by first | rfl | (simp; done) | (simp [*]; done)), H', ⟨Nat.le_refl _⟩, ⟨by (with_reducible repeat (first | refine bN ?_ _ | refine bD ?_ | refine bA ?_ _)); refine blk_far ?_ NB227_229.out _; (with_reducible repeat (first | refine bN ?_ _ | refine bD ?_ | refine bA ?_ _)); refine blk_far ?_ NB227_229.out _; (with_reducible repeat (first | refine bN ?_ _ | refine bD ?_ | refine bA ?_ _)); exact BK227.out⟩, ⟨by (with_reducible repeat (first | refine bN ?_ _ | refine bD ?_ | refine bA ?_ _)); refine blk_far ?_ NB228_229.out _; (with_reducible repeat (first | refine bN ?_ _ | refine bD ?_ | refine bA ?_ _)); refine blk_far ?_ NB228_229.out _; (with_reducible repeat (first | refine bN ?_ _ | refine bD ?_ | refine bA ?_ _)); exact BK228.out⟩, ⟨by (with_reducible repeat (first | refine bN ?_ _ | refine bD ?_ | refine bA ?_ _)); refine blk_put (cs := #[.int .i64 0, .int .i64 0]) ?_ 1 _ rfl; (with_reducible repeat (first | refine bN ?_ _ | refine bD ?_ | refine bA ?_ _)); refine blk_put (cs := #[.int .i64 0, .int .i64 0]) ?_ 0 _ rfl; (with_reducible repeat (first | refine bN ?_ _ | refine bD ?_ | refine bA ?_ _)); exact BK229.out⟩, ⟨by repeat (first | (with_reducible first | exact HB.out | apply lA | apply lN | apply lD | refine below_set ?_ GE227.out | refine below_set ?_ GE228.out | refine below_set ?_ GE229.out) | exact HB.out)⟩⟩
  case round =>
   clear H'
   try clear c1
   try clear c2
   try clear p2
   try clear c5
   try clear c5b0
   try clear c5b1
   try clear c6
   try clear p6
   try clear c12
   try clear c13
   try clear c16
   try clear c17
   try clear hcz11_0
   try clear hcz11_1
   try clear hcz14_0
   try clear hcz14_1
   try clear hcz18_0
   try clear hcz18_1
   try clear hfz11_0
   try clear hfz11_1
   try clear hfz14_0
   try clear hfz14_1
   try clear hfz18_0
   try clear hfz18_1
   obtain ⟨x11_1, x12_1, x229000_1, x229001_1, x230000_1, x230001_1, rfl, rfl, HA, HK1, BK227, BK228, BK229, HB⟩ := hrel
   cases gk with
   | zero => exact absurd HA.out (by simp [reredoslaw06_BudgetParts.l0])
   | succ k1 =>
    have H := HA.out
    clear HA
    simp only [reredoslaw06_BudgetParts.l0] at H
    by_cases c19 : x12_1 < (l2.length : Int)
    ·rw [if_pos c19] at H
     have c19b0 : decide (x12_1 < (l2.length : Int)) = true := decide_eq_true c19
     clear c19
     by_cases c20 : 0 ≤ x12_1
     ·rw [if_pos c20] at H
      have c20b0 : decide (0 ≤ x12_1) = true := decide_eq_true c20
      clear c20
      obtain ⟨y239, hy239⟩ : ∃ y_ : List (S26), y_ = (([(⟨x230000_1, x230001_1⟩ : S26), (⟨wrap64 (rd l2 x12_1), wrap64 (Int.tdiv (wrap64 (rd l2 x12_1)) 3)⟩ : S26)] : List (S26))) := ⟨_, rfl⟩
      replace H : ((budget_Sum.f y239).bind fun bt242 => (if x11_1 = true then ((budget_Budget_Pay.f x229000_1 x229001_1 (wrap64 (rd l2 x12_1)) (wrap64 (Int.tdiv (wrap64 (rd l2 x12_1)) 3))).bind fun bt244 => (if bt244.2.2 = 0 then (reredoslaw06_BudgetParts.l0 k1 l2 t224 (bt244.2.2 == 0) (wrap64 (x12_1 + 1)) t225 t226 bt244.1 bt244.2.1 bt242.1 bt242.2) else (reredoslaw06_BudgetParts.l0 k1 l2 t224 (bt244.2.2 == 0) (wrap64 (x12_1 + 1)) t225 t226 x229000_1 x229001_1 bt242.1 bt242.2))) else (reredoslaw06_BudgetParts.l0 k1 l2 t224 x11_1 (wrap64 (x12_1 + 1)) t225 t226 x229000_1 x229001_1 bt242.1 bt242.2))) = some r := by first | (rw [hy239]; with_reducible exact H) | (have H2_ := (Option.bind_some _ _).symm.trans H; rw [hy239]; with_reducible exact H2_) | (have H2_ := (Option.bind_some _ _).symm.trans H; with_reducible exact H2_) | with_reducible exact H | (rw [hy239]; exact H) | exact H
      have Ny239 := am hy239
      clear hy239
      replace H := Option.bind_eq_some_iff.mp H
      obtain ⟨⟨t242, t243⟩, A210, H⟩ := H
      replace H : (if x11_1 = true then ((budget_Budget_Pay.f x229000_1 x229001_1 (wrap64 (rd l2 x12_1)) (wrap64 (Int.tdiv (wrap64 (rd l2 x12_1)) 3))).bind fun bt244 => (if bt244.2.2 = 0 then (reredoslaw06_BudgetParts.l0 k1 l2 t224 (bt244.2.2 == 0) (wrap64 (x12_1 + 1)) t225 t226 bt244.1 bt244.2.1 t242 t243) else (reredoslaw06_BudgetParts.l0 k1 l2 t224 (bt244.2.2 == 0) (wrap64 (x12_1 + 1)) t225 t226 x229000_1 x229001_1 t242 t243))) else (reredoslaw06_BudgetParts.l0 k1 l2 t224 x11_1 (wrap64 (x12_1 + 1)) t225 t226 x229000_1 x229001_1 t242 t243)) = some r := H
      have A21 := am A210
      clear A210
      by_cases c22 : x11_1 = true
      ·subst c22
       have H1 : ((budget_Budget_Pay.f x229000_1 x229001_1 (wrap64 (rd l2 x12_1)) (wrap64 (Int.tdiv (wrap64 (rd l2 x12_1)) 3))).bind fun bt244 => (if bt244.2.2 = 0 then (reredoslaw06_BudgetParts.l0 k1 l2 t224 (bt244.2.2 == 0) (wrap64 (x12_1 + 1)) t225 t226 bt244.1 bt244.2.1 t242 t243) else (reredoslaw06_BudgetParts.l0 k1 l2 t224 (bt244.2.2 == 0) (wrap64 (x12_1 + 1)) t225 t226 x229000_1 x229001_1 t242 t243))) = some r := by rw [if_pos rfl] at H; exact H
       clear H
       have H := H1
       clear H1
       replace H := Option.bind_eq_some_iff.mp H
       obtain ⟨⟨t244, t245, t246⟩, A230, H⟩ := H
       replace H : (if t246 = 0 then (reredoslaw06_BudgetParts.l0 k1 l2 t224 (t246 == 0) (wrap64 (x12_1 + 1)) t225 t226 t244 t245 t242 t243) else (reredoslaw06_BudgetParts.l0 k1 l2 t224 (t246 == 0) (wrap64 (x12_1 + 1)) t225 t226 x229000_1 x229001_1 t242 t243)) = some r := H
       have A23 := am A230
       clear A230
       by_cases c24 : t246 = 0
       ·rw [if_pos c24] at H
        have c24b0 : (t246 == 0) = true := beq_iff_eq.mpr c24
        have c24b1 : (t246 != 0) = false := bne_eq_false_iff_eq.mpr c24
        clear c24
        have H' := am H
        clear H
        try go_wp2
        have n0_ := am (bD BK227.out)
        have n1_ := am (bD BK228.out)
        have n2_ := am (bD BK229.out)
        have n3_ := am (lD HB.out)
        clear BK227
        clear BK228
        clear BK229
        clear HB
        have BK227 := n0_
        have BK228 := n1_
        have BK229 := n2_
        have HB := n3_
        clear n0_ n1_ n2_ n3_
        have p236 : 0 ≤ (x12_1 : Int) := of_decide_eq_true (by first | (with_reducible assumption) | assumption)
        have q236 : x12_1 < (l2.length : Int) := of_decide_eq_true (by first | (with_reducible assumption) | assumption)
        obtain ⟨ad236, e236, hx236_0⟩ := Kd.at_int HR2.out x12_1 p236 q236
        have hw236_0 := hx236_0
        cases e236
        replace hx236_0 := (HB.out.cell (World.block_lt_of_cell? w _ hx236_0)).trans hx236_0
        replace p236 := eq_true p236
        replace q236 := eq_true q236
        have p237 : 0 ≤ (x12_1 : Int) := of_decide_eq_true (by first | (with_reducible assumption) | assumption)
        have q237 : x12_1 < (l2.length : Int) := of_decide_eq_true (by first | (with_reducible assumption) | assumption)
        obtain ⟨ad237, e237, hx237_0⟩ := Kd.at_int HR2.out x12_1 p237 q237
        have hw237_0 := hx237_0
        obtain rfl : ad236 = ad237 := (by injection e237)
        replace hx237_0 := (HB.out.cell (World.block_lt_of_cell? w _ hx237_0)).trans hx237_0
        replace p237 := eq_true p237
        replace q237 := eq_true q237
        refine start_ (n := 14) (S := fun w' => w'.cell? (ad236.add (x12_1).toNat) = some (.int .u16 (rd l2 x12_1)) ∧ w'.cell? (ad236.add (x12_1).toNat) = some (.int .u16 (rd l2 x12_1))) (ds := []) #[false, false, false, false, false, false, false, false, false, false, false, false, false, false] (by kernel_rfl) rfl rfl ⟨((HB.out.cell (World.block_lt_of_cell? w _ hw236_0)).trans hw236_0), ((HB.out.cell (World.block_lt_of_cell? w _ hw237_0)).trans hw237_0)⟩ (fun hHeld => ?_); refine with_tabW reredoslaw06_BudgetParts.tab11 reredoslaw06_BudgetParts.bits11 (fun HT_ HW_ => ?_)
        generalize wr.drew = w25 at BK227 BK228 BK229 HB hx236_0 hx237_0 hHeld ⊢
        refine pure_ (i := 0) (N := some 36) (v := ?_) (a' := ?_) #[true, false, false, false, false, false, false, false, false, false, false, false, false, false] rfl rfl (any_of HT_.out (by kernel_rfl)) (fun _ _ _ h => h) (Or.inl ⟨by rfl, ?_⟩) ?_ ?_
        rotate_left
        ·intro w'
         go_simp
         with_reducible rfl
        rotate_left
        ·simp only [Act.put, zT, z0, zS, i64_w, i32_w]
         rfl
        refine pure_ (i := 1) (N := some 37) (v := ?_) (a' := ?_) #[true, true, false, false, false, false, false, false, false, false, false, false, false, false] rfl rfl (any_of HT_.out (by kernel_rfl)) (fun _ _ _ h => h) (Or.inl ⟨by rfl, ?_⟩) ?_ ?_
        rotate_left
        ·intro w'
         go_simp
         with_reducible rfl
        rotate_left
        ·simp only [Act.put, zT, z0, zS, i64_w, i32_w]
         rfl
        refine pure_ (i := 2) (N := some 38) (v := ?_) (a' := ?_) #[true, true, true, false, false, false, false, false, false, false, false, false, false, false] rfl rfl (any_of HT_.out (by kernel_rfl)) (fun _ _ _ h => h) (Or.inl ⟨by rfl, ?_⟩) ?_ ?_
        rotate_left
        ·intro w'
         go_simp
         with_reducible rfl
        rotate_left
        ·simp only [Act.put, zT, z0, zS, i64_w, i32_w]
         rfl
        refine pure_ (i := 5) (N := some 41) (v := ?_) (a' := ?_) #[true, true, true, false, false, true, false, false, false, false, false, false, false, false] rfl rfl (any_of HT_.out (by kernel_rfl)) (fun _ _ _ h => h) (Or.inl ⟨by rfl, ?_⟩) ?_ ?_
        rotate_left
        ·intro w'
         go_simp
         with_reducible rfl
        rotate_left
        ·simp only [Act.put, zT, z0, zS, i64_w, i32_w]
         rfl
        refine pure_ (i := 6) (N := some 42) (v := ?_) (a' := ?_) #[true, true, true, false, false, true, true, false, false, false, false, false, false, false] rfl rfl (any_of HT_.out (by kernel_rfl)) (fun _ _ _ h => h) (Or.inl ⟨by rfl, ?_⟩) ?_ ?_
        rotate_left
        ·intro w'
         go_simp
         with_reducible rfl
        rotate_left
        ·simp only [Act.put, zT, z0, zS, i64_w, i32_w]
         rfl
        refine pure_ (i := 7) (N := some 43) (v := ?_) (a' := ?_) #[true, true, true, false, false, true, true, true, false, false, false, false, false, false] rfl rfl (any_of HT_.out (by kernel_rfl)) (fun _ _ _ h => h) (Or.inl ⟨by rfl, ?_⟩) ?_ ?_
        rotate_left
        ·intro w'
         go_simp
         with_reducible rfl
        rotate_left
        ·simp only [Act.put, zT, z0, zS, i64_w, i32_w]
         rfl
        refine take_ (i := 3) (N := some 39) (v := ?_) (a' := ?_) #[true, true, true, true, false, true, true, true, false, false, false, false, false, false] rfl rfl (take_ofW HT_.out HW_.out (by kernel_rfl)) (fun _ _ _ h => h) (Or.inl ⟨by rfl, ?_⟩) hHeld ?_ ?_
        rotate_left
        ·rintro w' ⟨s0, s1⟩
         go_simp
         with_reducible rfl
        rotate_left
        ·simp only [Act.put, zT, z0, zS, i64_w, i32_w]
         rfl
        refine pure_ (i := 4) (N := some 40) (v := ?_) (a' := ?_) #[true, true, true, true, true, true, true, true, false, false, false, false, false, false] rfl rfl (any_of HT_.out (by kernel_rfl)) (fun _ _ _ h => h) (Or.inl ⟨by rfl, ?_⟩) ?_ ?_
        rotate_left
        ·intro w'
         go_simp
         with_reducible rfl
        rotate_left
        ·simp only [Act.put, zT, z0, zS, i64_w, i32_w]
         rfl
        refine take_ (i := 8) (N := some 44) (v := ?_) (a' := ?_) #[true, true, true, true, true, true, true, true, true, false, false, false, false, false] rfl rfl (take_ofW HT_.out HW_.out (by kernel_rfl)) (fun _ _ _ h => h) (Or.inl ⟨by rfl, ?_⟩) hHeld ?_ ?_
        rotate_left
        ·rintro w' ⟨s0, s1⟩
         go_simp
         with_reducible rfl
        rotate_left
        ·simp only [Act.put, zT, z0, zS, i64_w, i32_w]
         rfl
        refine pure_ (i := 9) (N := some 45) (v := ?_) (a' := ?_) #[true, true, true, true, true, true, true, true, true, true, false, false, false, false] rfl rfl (any_of HT_.out (by kernel_rfl)) (fun _ _ _ h => h) (Or.inl ⟨by rfl, ?_⟩) ?_ ?_
        rotate_left
        ·intro w'
         go_simp
         with_reducible rfl
        rotate_left
        ·simp only [Act.put, zT, z0, zS, i64_w, i32_w]
         rfl
        refine pure_ (i := 10) (N := some 46) (v := ?_) (a' := ?_) #[true, true, true, true, true, true, true, true, true, true, true, false, false, false] rfl rfl (any_of HT_.out (by kernel_rfl)) (fun _ _ _ h => h) (Or.inl ⟨by rfl, ?_⟩) ?_ ?_
        rotate_left
        ·intro w'
         go_simp
         with_reducible rfl
        rotate_left
        ·simp only [Act.put, zT, z0, zS, i64_w, i32_w]
         rfl
        refine pure_ (i := 11) (N := some 47) (v := ?_) (a' := ?_) #[true, true, true, true, true, true, true, true, true, true, true, true, false, false] rfl rfl (any_of HT_.out (by kernel_rfl)) (fun _ _ _ h => h) (Or.inl ⟨by rfl, ?_⟩) ?_ ?_
        rotate_left
        ·intro w'
         go_simp
         with_reducible rfl
        rotate_left
        ·simp only [Act.put, zT, z0, zS, i64_w, i32_w]
         rfl
        refine one_ (i := 12) (N := some 13) #[true, true, true, true, true, true, true, true, true, true, true, true, true, false] rfl rfl (one_of HT_.out (by kernel_rfl)) (by decide) (fun K hK => ?_)
        refine box_step ?hg (N := 13) ?hd (cs := #[.int .i64 0, .int .i64 0]) (t := 26) ?hr ?_; (case hd => rfl); (case hg => rfl); (case hr => first | (go_simp; done) | (go_simp; rfl))
        intro gb238 hg w26 hbox hb
        have n0_ := am (bB (g := gb227) (o := .cells #[.int .i64 t225, .int .i64 t226] 26 (0, 0)) (by (with_reducible repeat (first | refine bN ?_ _ | refine bD ?_ | refine bA ?_ _)); exact BK227.out) hb)
        have n1_ := am (bB (g := gb228) (o := .cells #[.int .i64 x229000_1, .int .i64 x229001_1] 26 (0, 0)) (by (with_reducible repeat (first | refine bN ?_ _ | refine bD ?_ | refine bA ?_ _)); exact BK228.out) hb)
        have n2_ := am (bB (g := gb229) (o := .cells #[.int .i64 x230000_1, .int .i64 x230001_1] 26 (0, 0)) (by (with_reducible repeat (first | refine bN ?_ _ | refine bD ?_ | refine bA ?_ _)); exact BK229.out) hb)
        have n3_ := am (below_step (by repeat (first | (with_reducible first | exact HB.out | apply lA | apply lN | apply lD | refine below_set ?_ GE227.out | refine below_set ?_ GE228.out | refine below_set ?_ GE229.out) | exact HB.out)) hb)
        have n4_ := am (hbox)
        have n5_ := am ((by rw [hg]; exact (below_size (by repeat (first | (with_reducible first | exact HB.out | apply lA | apply lN | apply lD | refine below_set ?_ GE227.out | refine below_set ?_ GE228.out | refine below_set ?_ GE229.out) | exact HB.out))) : w.heap.size ≤ gb238))
        have n6_ := n5_
        have n7_ := am ((by rw [hg]; exact Nat.ne_of_lt (blk_lt (g := gb227) (o := .cells #[.int .i64 t225, .int .i64 t226] 26 (0, 0)) (by (with_reducible repeat (first | refine bN ?_ _ | refine bD ?_ | refine bA ?_ _)); exact BK227.out)) : gb227 ≠ gb238))
        have n8_ := am ((by rw [hg]; exact Nat.ne_of_gt (blk_lt (g := gb227) (o := .cells #[.int .i64 t225, .int .i64 t226] 26 (0, 0)) (by (with_reducible repeat (first | refine bN ?_ _ | refine bD ?_ | refine bA ?_ _)); exact BK227.out)) : gb238 ≠ gb227))
        have n9_ := am ((by rw [hg]; exact Nat.ne_of_lt (blk_lt (g := gb228) (o := .cells #[.int .i64 x229000_1, .int .i64 x229001_1] 26 (0, 0)) (by (with_reducible repeat (first | refine bN ?_ _ | refine bD ?_ | refine bA ?_ _)); exact BK228.out)) : gb228 ≠ gb238))
        have n10_ := am ((by rw [hg]; exact Nat.ne_of_gt (blk_lt (g := gb228) (o := .cells #[.int .i64 x229000_1, .int .i64 x229001_1] 26 (0, 0)) (by (with_reducible repeat (first | refine bN ?_ _ | refine bD ?_ | refine bA ?_ _)); exact BK228.out)) : gb238 ≠ gb228))
        have n11_ := am ((by rw [hg]; exact Nat.ne_of_lt (blk_lt (g := gb229) (o := .cells #[.int .i64 x230000_1, .int .i64 x230001_1] 26 (0, 0)) (by (with_reducible repeat (first | refine bN ?_ _ | refine bD ?_ | refine bA ?_ _)); exact BK229.out)) : gb229 ≠ gb238))
        have n12_ := am ((by rw [hg]; exact Nat.ne_of_gt (blk_lt (g := gb229) (o := .cells #[.int .i64 x230000_1, .int .i64 x230001_1] 26 (0, 0)) (by (with_reducible repeat (first | refine bN ?_ _ | refine bD ?_ | refine bA ?_ _)); exact BK229.out)) : gb238 ≠ gb229))
        clear BK227
        clear BK228
        clear BK229
        clear HB
        have BK227 := n0_
        have BK228 := n1_
        have BK229 := n2_
        have HB := n3_
        have BK238 := n4_
        have GW238 := n5_
        have GE238 := n6_
        have NB227_238 := n7_
        have NB238_227 := n8_
        have NB228_238 := n9_
        have NB238_228 := n10_
        have NB229_238 := n11_
        have NB238_229 := n12_
        clear n0_ n1_ n2_ n3_ n4_ n5_ n6_ n7_ n8_ n9_ n10_ n11_ n12_
        clear hb hbox hg
        refine hK.out _ _ ⟨((HB.out.cell (World.block_lt_of_cell? w _ hw236_0)).trans hw236_0), ((HB.out.cell (World.block_lt_of_cell? w _ hw237_0)).trans hw237_0)⟩ (fun hHeld => ?_)
        clear hK K
        refine norm_ (a' := ?_) ?_ ?_
        rotate_left
        ·show Act.put _ (some 13) _ = _
         simp only [Act.put, zT, z0, zS, i64_w, i32_w]
         rfl
        refine one_ (i := 13) (N := none) #[true, true, true, true, true, true, true, true, true, true, true, true, true, true] rfl rfl (one_of HT_.out (by kernel_rfl)) (by decide) (fun K hK => ?_)
        have hs27 : w26.cell? ⟨gb238, 0, none⟩ = some (.int .i64 0) := (blk_cell BK238.out 0).trans rfl
        have hfs27 := blk_frozen BK238.out 0
        have hns27_0 := NB227_238.out
        have hns27_1 := NB228_238.out
        have hns27_2 := NB229_238.out
        have hms27_0 := NB238_227.out
        have hms27_1 := NB238_228.out
        have hms27_2 := NB238_229.out
        have hs28 : w26.cell? ⟨gb238, 1, none⟩ = some (.int .i64 0) := (blk_cell BK238.out 1).trans rfl
        have hfs28 := blk_frozen BK238.out 1
        have hns28_0 := NB227_238.out
        have hns28_1 := NB228_238.out
        have hns28_2 := NB229_238.out
        have hms28_0 := NB238_227.out
        have hms28_1 := NB238_228.out
        have hms28_2 := NB238_229.out
        refine skip_ (w1 := ?_) (by rfl) rfl ?_ ?_
        rotate_left
        ·go_simp
         rfl
        refine hK.out _ _ ⟨((cell_far (p := ⟨gb238, _, none⟩) (by first | exact Nat.ne_of_lt (Nat.lt_of_lt_of_le (by have := World.block_lt_of_cell? _ _ hw236_0; first | rwa [add_block] at this | exact this) GW238.out) | (rw [add_block]; exact Nat.ne_of_lt (Nat.lt_of_lt_of_le (by have := World.block_lt_of_cell? _ _ hw236_0; first | rwa [add_block] at this | exact this) GW238.out)) | (show (Addr.add _ _).block ≠ _; rw [add_block]; exact Nat.ne_of_lt (Nat.lt_of_lt_of_le (by have := World.block_lt_of_cell? _ _ hw236_0; first | rwa [add_block] at this | exact this) GW238.out)) | (dsimp only; exact Nat.ne_of_lt (Nat.lt_of_lt_of_le (by have := World.block_lt_of_cell? _ _ hw236_0; first | rwa [add_block] at this | exact this) GW238.out))) _).trans (((cell_far (p := ⟨gb238, _, none⟩) (by first | exact Nat.ne_of_lt (Nat.lt_of_lt_of_le (by have := World.block_lt_of_cell? _ _ hw236_0; first | rwa [add_block] at this | exact this) GW238.out) | (rw [add_block]; exact Nat.ne_of_lt (Nat.lt_of_lt_of_le (by have := World.block_lt_of_cell? _ _ hw236_0; first | rwa [add_block] at this | exact this) GW238.out)) | (show (Addr.add _ _).block ≠ _; rw [add_block]; exact Nat.ne_of_lt (Nat.lt_of_lt_of_le (by have := World.block_lt_of_cell? _ _ hw236_0; first | rwa [add_block] at this | exact this) GW238.out)) | (dsimp only; exact Nat.ne_of_lt (Nat.lt_of_lt_of_le (by have := World.block_lt_of_cell? _ _ hw236_0; first | rwa [add_block] at this | exact this) GW238.out))) _).trans (hHeld.1)))), ((cell_far (p := ⟨gb238, _, none⟩) (by first | exact Nat.ne_of_lt (Nat.lt_of_lt_of_le (by have := World.block_lt_of_cell? _ _ hw237_0; first | rwa [add_block] at this | exact this) GW238.out) | (rw [add_block]; exact Nat.ne_of_lt (Nat.lt_of_lt_of_le (by have := World.block_lt_of_cell? _ _ hw237_0; first | rwa [add_block] at this | exact this) GW238.out)) | (show (Addr.add _ _).block ≠ _; rw [add_block]; exact Nat.ne_of_lt (Nat.lt_of_lt_of_le (by have := World.block_lt_of_cell? _ _ hw237_0; first | rwa [add_block] at this | exact this) GW238.out)) | (dsimp only; exact Nat.ne_of_lt (Nat.lt_of_lt_of_le (by have := World.block_lt_of_cell? _ _ hw237_0; first | rwa [add_block] at this | exact this) GW238.out))) _).trans (((cell_far (p := ⟨gb238, _, none⟩) (by first | exact Nat.ne_of_lt (Nat.lt_of_lt_of_le (by have := World.block_lt_of_cell? _ _ hw237_0; first | rwa [add_block] at this | exact this) GW238.out) | (rw [add_block]; exact Nat.ne_of_lt (Nat.lt_of_lt_of_le (by have := World.block_lt_of_cell? _ _ hw237_0; first | rwa [add_block] at this | exact this) GW238.out)) | (show (Addr.add _ _).block ≠ _; rw [add_block]; exact Nat.ne_of_lt (Nat.lt_of_lt_of_le (by have := World.block_lt_of_cell? _ _ hw237_0; first | rwa [add_block] at this | exact this) GW238.out)) | (dsimp only; exact Nat.ne_of_lt (Nat.lt_of_lt_of_le (by have := World.block_lt_of_cell? _ _ hw237_0; first | rwa [add_block] at this | exact this) GW238.out))) _).trans (hHeld.2))))⟩ (fun hHeld => ?_)
        clear hK K
        refine done_ (done_of HT_.out (by kernel_rfl)) ?_
        have hnb29 := NB229_227.out
        have hnc29 := NB227_229.out
        have hnb30 := NB229_228.out
        have hnc30 := NB228_229.out
        have hnb31 := NB229_238.out
        have hnc31 := NB238_229.out
        have hcz32_0 : w26.cell? ⟨gb229, 0, none⟩ = some (.int .i64 x230000_1) := (blk_cell BK229.out 0).trans rfl
        have hcz32_1 : w26.cell? ⟨gb229, 1, none⟩ = some (.int .i64 x230001_1) := (blk_cell BK229.out 1).trans rfl
        have hfz32_0 := blk_frozen BK229.out 0
        have hfz32_1 := blk_frozen BK229.out 1
        have hnb33 := NB238_227.out
        have hnc33 := NB227_238.out
        have hnb34 := NB238_228.out
        have hnc34 := NB228_238.out
        have hcz35_0 : w26.cell? ⟨gb238, 0, none⟩ = some (.int .i64 0) := (blk_cell BK238.out 0).trans rfl
        have hcz35_1 : w26.cell? ⟨gb238, 1, none⟩ = some (.int .i64 0) := (blk_cell BK238.out 1).trans rfl
        have hfz35_0 := blk_frozen BK238.out 0
        have hfz35_1 := blk_frozen BK238.out 1
        try go_wp2_with (first | ((with_reducible refine gate_dst (N := 50) rfl ?_); refine Kd.R_lit k26 _ 26 ?hg (N := 50) ?hd (xs := ([(⟨x230000_1, x230001_1⟩ : S26), (⟨wrap64 (rd l2 x12_1), wrap64 (Int.tdiv (wrap64 (rd l2 x12_1)) 3)⟩ : S26)] : List (S26))) (inner := [.int .i64 x230000_1, .int .i64 x230001_1, .int .i64 (wrap64 (rd l2 x12_1)), .int .i64 (wrap64 (Int.tdiv (wrap64 (rd l2 x12_1)) 3))]) (ok := fun _ => True) (okp := fun _ => True) ?hr ?hp (fun _ hk => hk) trivial (Below.refl _ _) (Nat.le_refl _) (by simp) ?_; (case hd => rfl); (case hg => rfl); (case hr => first | (go_simp; done) | (go_simp; rfl)); (case hp => exact (Reps.c2 (show Kd.M k26 _ _ _ (⟨x230000_1, x230001_1⟩ : S26) [.int .i64 x230000_1, .int .i64 x230001_1] from (k26_mkM _ _ _ (⟨x230000_1, x230001_1⟩ : S26) )) (Reps.c2 (show Kd.M k26 _ _ _ (⟨wrap64 (rd l2 x12_1), wrap64 (Int.tdiv (wrap64 (rd l2 x12_1)) 3)⟩ : S26) [.int .i64 (wrap64 (rd l2 x12_1)), .int .i64 (wrap64 (Int.tdiv (wrap64 (rd l2 x12_1)) 3))] from (k26_mkM _ _ _ (⟨wrap64 (rd l2 x12_1), wrap64 (Int.tdiv (wrap64 (rd l2 x12_1)) 3)⟩ : S26) )) (Reps.none _ _)))); intro v240 w36 ho37 hb hg_ hnew_; clear hg_ hnew_; (first | rw [← Ny239.out] at ho37 | (simp only [Int.reduceToNat] at ho37; rw [← Ny239.out] at ho37)); have n0_ := am (Kd.R_lower (Kd.R_newB (Kd.R_newB (Kd.R_newB (Kd.R_newB ho37 (g := gb227) (o := .cells #[.int .i64 t225, .int .i64 t226] 26 (0, 0)) (by (with_reducible repeat (first | refine bN ?_ _ | refine bD ?_ | refine bA ?_ _)); refine blk_far ?_ NB227_238.out _; (with_reducible repeat (first | refine bN ?_ _ | refine bD ?_ | refine bA ?_ _)); refine blk_far ?_ NB227_238.out _; (with_reducible repeat (first | refine bN ?_ _ | refine bD ?_ | refine bA ?_ _)); exact BK227.out)) (g := gb228) (o := .cells #[.int .i64 x229000_1, .int .i64 x229001_1] 26 (0, 0)) (by (with_reducible repeat (first | refine bN ?_ _ | refine bD ?_ | refine bA ?_ _)); refine blk_far ?_ NB228_238.out _; (with_reducible repeat (first | refine bN ?_ _ | refine bD ?_ | refine bA ?_ _)); refine blk_far ?_ NB228_238.out _; (with_reducible repeat (first | refine bN ?_ _ | refine bD ?_ | refine bA ?_ _)); exact BK228.out)) (g := gb229) (o := .cells #[.int .i64 x230000_1, .int .i64 x230001_1] 26 (0, 0)) (by (with_reducible repeat (first | refine bN ?_ _ | refine bD ?_ | refine bA ?_ _)); refine blk_far ?_ NB229_238.out _; (with_reducible repeat (first | refine bN ?_ _ | refine bD ?_ | refine bA ?_ _)); refine blk_far ?_ NB229_238.out _; (with_reducible repeat (first | refine bN ?_ _ | refine bD ?_ | refine bA ?_ _)); exact BK229.out)) (g := gb238) (o := .cells #[.int .i64 (wrap64 (rd l2 x12_1)), .int .i64 (wrap64 (Int.tdiv (wrap64 (rd l2 x12_1)) 3))] 26 (0, 0)) (by (with_reducible repeat (first | refine bN ?_ _ | refine bD ?_ | refine bA ?_ _)); refine blk_put (cs := #[.int .i64 (wrap64 (rd l2 x12_1)), .int .i64 0]) ?_ 1 _ rfl; (with_reducible repeat (first | refine bN ?_ _ | refine bD ?_ | refine bA ?_ _)); refine blk_put (cs := #[.int .i64 0, .int .i64 0]) ?_ 0 _ rfl; (with_reducible repeat (first | refine bN ?_ _ | refine bD ?_ | refine bA ?_ _)); exact BK238.out)) (below_size (by repeat (first | (with_reducible first | exact HB.out | apply lA | apply lN | apply lD | refine below_set ?_ GE227.out | refine below_set ?_ GE228.out | refine below_set ?_ GE229.out | refine below_set ?_ GE238.out) | exact HB.out)))); have n1_ := am (bB (g := gb227) (o := .cells #[.int .i64 t225, .int .i64 t226] 26 (0, 0)) (by (with_reducible repeat (first | refine bN ?_ _ | refine bD ?_ | refine bA ?_ _)); refine blk_far ?_ NB227_238.out _; (with_reducible repeat (first | refine bN ?_ _ | refine bD ?_ | refine bA ?_ _)); refine blk_far ?_ NB227_238.out _; (with_reducible repeat (first | refine bN ?_ _ | refine bD ?_ | refine bA ?_ _)); exact BK227.out) hb); have n2_ := am (bB (g := gb228) (o := .cells #[.int .i64 x229000_1, .int .i64 x229001_1] 26 (0, 0)) (by (with_reducible repeat (first | refine bN ?_ _ | refine bD ?_ | refine bA ?_ _)); refine blk_far ?_ NB228_238.out _; (with_reducible repeat (first | refine bN ?_ _ | refine bD ?_ | refine bA ?_ _)); refine blk_far ?_ NB228_238.out _; (with_reducible repeat (first | refine bN ?_ _ | refine bD ?_ | refine bA ?_ _)); exact BK228.out) hb); have n3_ := am (bB (g := gb229) (o := .cells #[.int .i64 x230000_1, .int .i64 x230001_1] 26 (0, 0)) (by (with_reducible repeat (first | refine bN ?_ _ | refine bD ?_ | refine bA ?_ _)); refine blk_far ?_ NB229_238.out _; (with_reducible repeat (first | refine bN ?_ _ | refine bD ?_ | refine bA ?_ _)); refine blk_far ?_ NB229_238.out _; (with_reducible repeat (first | refine bN ?_ _ | refine bD ?_ | refine bA ?_ _)); exact BK229.out) hb); have n4_ := am (bB (g := gb238) (o := .cells #[.int .i64 (wrap64 (rd l2 x12_1)), .int .i64 (wrap64 (Int.tdiv (wrap64 (rd l2 x12_1)) 3))] 26 (0, 0)) (by (with_reducible repeat (first | refine bN ?_ _ | refine bD ?_ | refine bA ?_ _)); refine blk_put (cs := #[.int .i64 (wrap64 (rd l2 x12_1)), .int .i64 0]) ?_ 1 _ rfl; (with_reducible repeat (first | refine bN ?_ _ | refine bD ?_ | refine bA ?_ _)); refine blk_put (cs := #[.int .i64 0, .int .i64 0]) ?_ 0 _ rfl; (with_reducible repeat (first | refine bN ?_ _ | refine bD ?_ | refine bA ?_ _)); exact BK238.out) hb); have n5_ := am (below_step (by repeat (first | (with_reducible first | exact HB.out | apply lA | apply lN | apply lD | refine below_set ?_ GE227.out | refine below_set ?_ GE228.out | refine below_set ?_ GE229.out | refine below_set ?_ GE238.out) | exact HB.out)) hb); clear BK227; clear BK228; clear BK229; clear BK238; clear HB; have HO241 := n0_; have BK227 := n1_; have BK228 := n2_; have BK229 := n3_; have BK238 := n4_; have HB := n5_; clear n0_ n1_ n2_ n3_ n4_ n5_; clear hb ho37; obtain ⟨Ao38, co38, eo38⟩ := Kd.R_slice HO241.out; subst eo38) | ((with_reducible refine gate_callee (f := 23) rfl ?_); refine goesL_ (some 51) rfl rfl Try.func23 (by kernel_rfl) rfl #[.slice Ao38 y239.length co38] rfl (by (try simp only [List.map_toArray, List.map_cons, List.map_nil]); first | done | rfl | (simp only [List.length_drop, List.length_take]; rfl)) ?_; (with_reducible refine (budget_Sum.calls _ _ y239 t242 t243 _ ?side1 ?side2 A21.out).mono ?_); (case side1 => repeat (first | exact (Kd.R_reads' HO241.out).2.2 | (with_reducible refine Kd.C_alloc ?_ _) | (with_reducible refine Kd.C_drewN ?_ _) | (with_reducible refine Kd.C_drew ?_))); (case side2 => exact (Kd.R_reads' HO241.out).2.1); rintro e w39 ⟨rfl, hb⟩; refine ⟨_, rfl, ?_⟩; have n0_ := am (Kd.R_below (by (with_reducible repeat (first | apply Kd.R_alloc | apply Kd.R_drewN | apply Kd.R_drew)); exact HO241.out) hb); have n1_ := am (bB (g := gb227) (o := .cells #[.int .i64 t225, .int .i64 t226] 26 (0, 0)) (by (with_reducible repeat (first | refine bN ?_ _ | refine bD ?_ | refine bA ?_ _)); exact BK227.out) hb); have n2_ := am (bB (g := gb228) (o := .cells #[.int .i64 x229000_1, .int .i64 x229001_1] 26 (0, 0)) (by (with_reducible repeat (first | refine bN ?_ _ | refine bD ?_ | refine bA ?_ _)); exact BK228.out) hb); have n3_ := am (bB (g := gb229) (o := .cells #[.int .i64 x230000_1, .int .i64 x230001_1] 26 (0, 0)) (by (with_reducible repeat (first | refine bN ?_ _ | refine bD ?_ | refine bA ?_ _)); exact BK229.out) hb); have n4_ := am (bB (g := gb238) (o := .cells #[.int .i64 (wrap64 (rd l2 x12_1)), .int .i64 (wrap64 (Int.tdiv (wrap64 (rd l2 x12_1)) 3))] 26 (0, 0)) (by (with_reducible repeat (first | refine bN ?_ _ | refine bD ?_ | refine bA ?_ _)); exact BK238.out) hb); have n5_ := am (below_step (by repeat (first | (with_reducible first | exact HB.out | apply lA | apply lN | apply lD | refine below_set ?_ GE227.out | refine below_set ?_ GE228.out | refine below_set ?_ GE229.out | refine below_set ?_ GE238.out) | exact HB.out)) hb); clear HO241; clear BK227; clear BK228; clear BK229; clear BK238; clear HB; have HO241 := n0_; have BK227 := n1_; have BK228 := n2_; have BK229 := n3_; have BK238 := n4_; have HB := n5_; clear n0_ n1_ n2_ n3_ n4_ n5_; (try clear hb); (try clear hb2); (try clear hk); (try clear hi); have hcz40_0 : w39.cell? ⟨gb229, 0, none⟩ = some (.int .i64 x230000_1) := (blk_cell BK229.out 0).trans rfl; have hcz40_1 : w39.cell? ⟨gb229, 1, none⟩ = some (.int .i64 x230001_1) := (blk_cell BK229.out 1).trans rfl; have hfz40_0 := blk_frozen BK229.out 0; have hfz40_1 := blk_frozen BK229.out 1; have hnb41 := NB228_227.out; have hnc41 := NB227_228.out; have hcz42_0 : w39.cell? ⟨gb228, 0, none⟩ = some (.int .i64 x229000_1) := (blk_cell BK228.out 0).trans rfl; have hcz42_1 : w39.cell? ⟨gb228, 1, none⟩ = some (.int .i64 x229001_1) := (blk_cell BK228.out 1).trans rfl; have hfz42_0 := blk_frozen BK228.out 0; have hfz42_1 := blk_frozen BK228.out 1; have hcz43_0 : w39.cell? ⟨gb238, 0, none⟩ = some (.int .i64 (wrap64 (rd l2 x12_1))) := (blk_cell BK238.out 0).trans rfl; have hcz43_1 : w39.cell? ⟨gb238, 1, none⟩ = some (.int .i64 (wrap64 (Int.tdiv (wrap64 (rd l2 x12_1)) 3))) := (blk_cell BK238.out 1).trans rfl; have hfz43_0 := blk_frozen BK238.out 0; have hfz43_1 := blk_frozen BK238.out 1) | ((with_reducible refine gate_callee (f := 14) rfl ?_); refine goesL_ (some 56) rfl rfl Try.func14 (by kernel_rfl) rfl #[.agg #[.int .i64 x229000_1, .int .i64 x229001_1], .agg #[.int .i64 (wrap64 (rd l2 x12_1)), .int .i64 (wrap64 (Int.tdiv (wrap64 (rd l2 x12_1)) 3))]] rfl (by (try simp only [List.map_toArray, List.map_cons, List.map_nil]); first | done | rfl | (simp only [List.length_drop, List.length_take]; rfl)) ?_; (with_reducible refine (budget_Budget_Pay.calls x229000_1 x229001_1 (wrap64 (rd l2 x12_1)) (wrap64 (Int.tdiv (wrap64 (rd l2 x12_1)) 3)) t244 t245 t246 _ A23.out).mono ?_); rintro e w44 ⟨rfl, hb⟩; refine ⟨_, rfl, ?_⟩; have n0_ := am (Kd.R_below (by (with_reducible repeat (first | apply Kd.R_alloc | apply Kd.R_drewN | apply Kd.R_drew)); exact (Kd.R_mono (Kd.R_far (p := ⟨gb229, 1, none⟩) (Kd.R_far (p := ⟨gb229, 0, none⟩) (Kd.R_mono HO241.out (fun k_ hk => (⟨hk, hk.1.2⟩ : _ ∧ k_ ≠ gb229))) (fun _ hk => hk.2) (.int .i64 t242)) (fun _ hk => hk.2) (.int .i64 t243)) (fun _ h_ => h_.1))) hb); have n1_ := am (bB (g := gb227) (o := .cells #[.int .i64 t225, .int .i64 t226] 26 (0, 0)) (by (with_reducible repeat (first | refine bN ?_ _ | refine bD ?_ | refine bA ?_ _)); refine blk_far ?_ NB227_229.out _; (with_reducible repeat (first | refine bN ?_ _ | refine bD ?_ | refine bA ?_ _)); refine blk_far ?_ NB227_229.out _; (with_reducible repeat (first | refine bN ?_ _ | refine bD ?_ | refine bA ?_ _)); exact BK227.out) hb); have n2_ := am (bB (g := gb228) (o := .cells #[.int .i64 x229000_1, .int .i64 x229001_1] 26 (0, 0)) (by (with_reducible repeat (first | refine bN ?_ _ | refine bD ?_ | refine bA ?_ _)); refine blk_far ?_ NB228_229.out _; (with_reducible repeat (first | refine bN ?_ _ | refine bD ?_ | refine bA ?_ _)); refine blk_far ?_ NB228_229.out _; (with_reducible repeat (first | refine bN ?_ _ | refine bD ?_ | refine bA ?_ _)); exact BK228.out) hb); have n3_ := am (bB (g := gb229) (o := .cells #[.int .i64 t242, .int .i64 t243] 26 (0, 0)) (by (with_reducible repeat (first | refine bN ?_ _ | refine bD ?_ | refine bA ?_ _)); refine blk_put (cs := #[.int .i64 t242, .int .i64 x230001_1]) ?_ 1 _ rfl; (with_reducible repeat (first | refine bN ?_ _ | refine bD ?_ | refine bA ?_ _)); refine blk_put (cs := #[.int .i64 x230000_1, .int .i64 x230001_1]) ?_ 0 _ rfl; (with_reducible repeat (first | refine bN ?_ _ | refine bD ?_ | refine bA ?_ _)); exact BK229.out) hb); have n4_ := am (bB (g := gb238) (o := .cells #[.int .i64 (wrap64 (rd l2 x12_1)), .int .i64 (wrap64 (Int.tdiv (wrap64 (rd l2 x12_1)) 3))] 26 (0, 0)) (by (with_reducible repeat (first | refine bN ?_ _ | refine bD ?_ | refine bA ?_ _)); refine blk_far ?_ NB238_229.out _; (with_reducible repeat (first | refine bN ?_ _ | refine bD ?_ | refine bA ?_ _)); refine blk_far ?_ NB238_229.out _; (with_reducible repeat (first | refine bN ?_ _ | refine bD ?_ | refine bA ?_ _)); exact BK238.out) hb); have n5_ := am (below_step (by repeat (first | (with_reducible first | exact HB.out | apply lA | apply lN | apply lD | refine below_set ?_ GE227.out | refine below_set ?_ GE228.out | refine below_set ?_ GE229.out | refine below_set ?_ GE238.out) | exact HB.out)) hb); clear HO241; clear BK227; clear BK228; clear BK229; clear BK238; clear HB; have HO241 := n0_; have BK227 := n1_; have BK228 := n2_; have BK229 := n3_; have BK238 := n4_; have HB := n5_; clear n0_ n1_ n2_ n3_ n4_ n5_; (try clear hb); (try clear hb2); (try clear hk); (try clear hi)) | ((with_reducible refine gate_dst (N := 14) rfl ?_); refine box_event ?hg (N := 14) ?hd (cs := #[.int .i64 0, .int .i64 0]) (t := 26) ?hr ?_; (case hd => rfl); (case hg => rfl); (case hr => first | (go_simp; done) | (go_simp; rfl)); intro gb247 hg w45 hbox hb; have n0_ := am (Kd.R_below (Kd.R_elderB (by (with_reducible repeat (first | apply Kd.R_alloc | apply Kd.R_drewN | apply Kd.R_drew)); exact HO241.out) gb247 (Nat.le_of_eq hg.symm)) hb); have n1_ := am (bB (g := gb227) (o := .cells #[.int .i64 t225, .int .i64 t226] 26 (0, 0)) (by (with_reducible repeat (first | refine bN ?_ _ | refine bD ?_ | refine bA ?_ _)); exact BK227.out) hb); have n2_ := am (bB (g := gb228) (o := .cells #[.int .i64 x229000_1, .int .i64 x229001_1] 26 (0, 0)) (by (with_reducible repeat (first | refine bN ?_ _ | refine bD ?_ | refine bA ?_ _)); exact BK228.out) hb); have n3_ := am (bB (g := gb229) (o := .cells #[.int .i64 t242, .int .i64 t243] 26 (0, 0)) (by (with_reducible repeat (first | refine bN ?_ _ | refine bD ?_ | refine bA ?_ _)); exact BK229.out) hb); have n4_ := am (bB (g := gb238) (o := .cells #[.int .i64 (wrap64 (rd l2 x12_1)), .int .i64 (wrap64 (Int.tdiv (wrap64 (rd l2 x12_1)) 3))] 26 (0, 0)) (by (with_reducible repeat (first | refine bN ?_ _ | refine bD ?_ | refine bA ?_ _)); exact BK238.out) hb); have n5_ := am (below_step (by repeat (first | (with_reducible first | exact HB.out | apply lA | apply lN | apply lD | refine below_set ?_ GE227.out | refine below_set ?_ GE228.out | refine below_set ?_ GE229.out | refine below_set ?_ GE238.out) | exact HB.out)) hb); have n6_ := am (hbox); have n7_ := am ((by rw [hg]; exact (below_size (by repeat (first | (with_reducible first | exact HB.out | apply lA | apply lN | apply lD | refine below_set ?_ GE227.out | refine below_set ?_ GE228.out | refine below_set ?_ GE229.out | refine below_set ?_ GE238.out) | exact HB.out))) : w.heap.size ≤ gb247)); have n8_ := n7_; have n9_ := am ((by rw [hg]; exact Nat.ne_of_lt (blk_lt (g := gb227) (o := .cells #[.int .i64 t225, .int .i64 t226] 26 (0, 0)) (by (with_reducible repeat (first | refine bN ?_ _ | refine bD ?_ | refine bA ?_ _)); exact BK227.out)) : gb227 ≠ gb247)); have n10_ := am ((by rw [hg]; exact Nat.ne_of_gt (blk_lt (g := gb227) (o := .cells #[.int .i64 t225, .int .i64 t226] 26 (0, 0)) (by (with_reducible repeat (first | refine bN ?_ _ | refine bD ?_ | refine bA ?_ _)); exact BK227.out)) : gb247 ≠ gb227)); have n11_ := am ((by rw [hg]; exact Nat.ne_of_lt (blk_lt (g := gb228) (o := .cells #[.int .i64 x229000_1, .int .i64 x229001_1] 26 (0, 0)) (by (with_reducible repeat (first | refine bN ?_ _ | refine bD ?_ | refine bA ?_ _)); exact BK228.out)) : gb228 ≠ gb247)); have n12_ := am ((by rw [hg]; exact Nat.ne_of_gt (blk_lt (g := gb228) (o := .cells #[.int .i64 x229000_1, .int .i64 x229001_1] 26 (0, 0)) (by (with_reducible repeat (first | refine bN ?_ _ | refine bD ?_ | refine bA ?_ _)); exact BK228.out)) : gb247 ≠ gb228)); have n13_ := am ((by rw [hg]; exact Nat.ne_of_lt (blk_lt (g := gb229) (o := .cells #[.int .i64 t242, .int .i64 t243] 26 (0, 0)) (by (with_reducible repeat (first | refine bN ?_ _ | refine bD ?_ | refine bA ?_ _)); exact BK229.out)) : gb229 ≠ gb247)); have n14_ := am ((by rw [hg]; exact Nat.ne_of_gt (blk_lt (g := gb229) (o := .cells #[.int .i64 t242, .int .i64 t243] 26 (0, 0)) (by (with_reducible repeat (first | refine bN ?_ _ | refine bD ?_ | refine bA ?_ _)); exact BK229.out)) : gb247 ≠ gb229)); have n15_ := am ((by rw [hg]; exact Nat.ne_of_lt (blk_lt (g := gb238) (o := .cells #[.int .i64 (wrap64 (rd l2 x12_1)), .int .i64 (wrap64 (Int.tdiv (wrap64 (rd l2 x12_1)) 3))] 26 (0, 0)) (by (with_reducible repeat (first | refine bN ?_ _ | refine bD ?_ | refine bA ?_ _)); exact BK238.out)) : gb238 ≠ gb247)); have n16_ := am ((by rw [hg]; exact Nat.ne_of_gt (blk_lt (g := gb238) (o := .cells #[.int .i64 (wrap64 (rd l2 x12_1)), .int .i64 (wrap64 (Int.tdiv (wrap64 (rd l2 x12_1)) 3))] 26 (0, 0)) (by (with_reducible repeat (first | refine bN ?_ _ | refine bD ?_ | refine bA ?_ _)); exact BK238.out)) : gb247 ≠ gb238)); clear HO241; clear BK227; clear BK228; clear BK229; clear BK238; clear HB; have HO241 := n0_; have BK227 := n1_; have BK228 := n2_; have BK229 := n3_; have BK238 := n4_; have HB := n5_; have BK247 := n6_; have GW247 := n7_; have GE247 := n8_; have NB227_247 := n9_; have NB247_227 := n10_; have NB228_247 := n11_; have NB247_228 := n12_; have NB229_247 := n13_; have NB247_229 := n14_; have NB238_247 := n15_; have NB247_238 := n16_; clear n0_ n1_ n2_ n3_ n4_ n5_ n6_ n7_ n8_ n9_ n10_ n11_ n12_ n13_ n14_ n15_ n16_; clear hb hbox hg; have hnb46 := NB247_227.out; have hnc46 := NB227_247.out; have hnb47 := NB247_228.out; have hnc47 := NB228_247.out; have hnb48 := NB247_229.out; have hnc48 := NB229_247.out; have hnb49 := NB247_238.out; have hnc49 := NB238_247.out; have hcz50_0 : w45.cell? ⟨gb247, 0, none⟩ = some (.int .i64 0) := (blk_cell BK247.out 0).trans rfl; have hcz50_1 : w45.cell? ⟨gb247, 1, none⟩ = some (.int .i64 0) := (blk_cell BK247.out 1).trans rfl; have hfz50_0 := blk_frozen BK247.out 0; have hfz50_1 := blk_frozen BK247.out 1; have hcz51_0 : w45.cell? ⟨gb228, 0, none⟩ = some (.int .i64 x229000_1) := (blk_cell BK228.out 0).trans rfl; have hcz51_1 : w45.cell? ⟨gb228, 1, none⟩ = some (.int .i64 x229001_1) := (blk_cell BK228.out 1).trans rfl; have hfz51_0 := blk_frozen BK228.out 0; have hfz51_1 := blk_frozen BK228.out 1))
        go_roundg k1
        case measure => have := HK1.out; omega
        case rel => exact ⟨((t246 == 0)), (wrap64 (x12_1 + 1)), (t244), (t245), (t242), (t243), (by first | rfl | (simp; done) | (simp [*]; done)), (by first | rfl | (simp; done) | (simp [*]; done)), H', ⟨by have := HK1.out; omega⟩, ⟨by (with_reducible repeat (first | refine bN ?_ _ | refine bD ?_ | refine bA ?_ _)); refine blk_far ?_ NB227_228.out _; (with_reducible repeat (first | refine bN ?_ _ | refine bD ?_ | refine bA ?_ _)); refine blk_far ?_ NB227_228.out _; (with_reducible repeat (first | refine bN ?_ _ | refine bD ?_ | refine bA ?_ _)); refine blk_far ?_ NB227_247.out _; (with_reducible repeat (first | refine bN ?_ _ | refine bD ?_ | refine bA ?_ _)); refine blk_far ?_ NB227_247.out _; (with_reducible repeat (first | refine bN ?_ _ | refine bD ?_ | refine bA ?_ _)); exact BK227.out⟩, ⟨by (with_reducible repeat (first | refine bN ?_ _ | refine bD ?_ | refine bA ?_ _)); refine blk_put (cs := #[.int .i64 t244, .int .i64 x229001_1]) ?_ 1 _ rfl; (with_reducible repeat (first | refine bN ?_ _ | refine bD ?_ | refine bA ?_ _)); refine blk_put (cs := #[.int .i64 x229000_1, .int .i64 x229001_1]) ?_ 0 _ rfl; (with_reducible repeat (first | refine bN ?_ _ | refine bD ?_ | refine bA ?_ _)); refine blk_far ?_ NB228_247.out _; (with_reducible repeat (first | refine bN ?_ _ | refine bD ?_ | refine bA ?_ _)); refine blk_far ?_ NB228_247.out _; (with_reducible repeat (first | refine bN ?_ _ | refine bD ?_ | refine bA ?_ _)); exact BK228.out⟩, ⟨by (with_reducible repeat (first | refine bN ?_ _ | refine bD ?_ | refine bA ?_ _)); refine blk_far ?_ NB229_228.out _; (with_reducible repeat (first | refine bN ?_ _ | refine bD ?_ | refine bA ?_ _)); refine blk_far ?_ NB229_228.out _; (with_reducible repeat (first | refine bN ?_ _ | refine bD ?_ | refine bA ?_ _)); refine blk_far ?_ NB229_247.out _; (with_reducible repeat (first | refine bN ?_ _ | refine bD ?_ | refine bA ?_ _)); refine blk_far ?_ NB229_247.out _; (with_reducible repeat (first | refine bN ?_ _ | refine bD ?_ | refine bA ?_ _)); exact BK229.out⟩, ⟨by repeat (first | (with_reducible first | exact HB.out | apply lA | apply lN | apply lD | refine below_set ?_ GE227.out | refine below_set ?_ GE228.out | refine below_set ?_ GE229.out | refine below_set ?_ GE238.out | refine below_set ?_ GE247.out) | exact HB.out)⟩⟩
       ·rw [if_neg c24] at H
        have c24b0 : (t246 == 0) = false := beq_eq_false_iff_ne.mpr c24
        have c24b1 : (t246 != 0) = true := bne_iff_ne.mpr c24
        have H' := am H
        clear H
        try go_wp2
        have n0_ := am (bD BK227.out)
        have n1_ := am (bD BK228.out)
        have n2_ := am (bD BK229.out)
        have n3_ := am (lD HB.out)
        clear BK227
        clear BK228
        clear BK229
        clear HB
        have BK227 := n0_
        have BK228 := n1_
        have BK229 := n2_
        have HB := n3_
        clear n0_ n1_ n2_ n3_
        have p236 : 0 ≤ (x12_1 : Int) := of_decide_eq_true (by first | (with_reducible assumption) | assumption)
        have q236 : x12_1 < (l2.length : Int) := of_decide_eq_true (by first | (with_reducible assumption) | assumption)
        obtain ⟨ad236, e236, hx236_0⟩ := Kd.at_int HR2.out x12_1 p236 q236
        have hw236_0 := hx236_0
        cases e236
        replace hx236_0 := (HB.out.cell (World.block_lt_of_cell? w _ hx236_0)).trans hx236_0
        replace p236 := eq_true p236
        replace q236 := eq_true q236
        have p237 : 0 ≤ (x12_1 : Int) := of_decide_eq_true (by first | (with_reducible assumption) | assumption)
        have q237 : x12_1 < (l2.length : Int) := of_decide_eq_true (by first | (with_reducible assumption) | assumption)
        obtain ⟨ad237, e237, hx237_0⟩ := Kd.at_int HR2.out x12_1 p237 q237
        have hw237_0 := hx237_0
        obtain rfl : ad236 = ad237 := (by injection e237)
        replace hx237_0 := (HB.out.cell (World.block_lt_of_cell? w _ hx237_0)).trans hx237_0
        replace p237 := eq_true p237
        replace q237 := eq_true q237
        refine start_ (n := 14) (S := fun w' => w'.cell? (ad236.add (x12_1).toNat) = some (.int .u16 (rd l2 x12_1)) ∧ w'.cell? (ad236.add (x12_1).toNat) = some (.int .u16 (rd l2 x12_1))) (ds := []) #[false, false, false, false, false, false, false, false, false, false, false, false, false, false] (by kernel_rfl) rfl rfl ⟨((HB.out.cell (World.block_lt_of_cell? w _ hw236_0)).trans hw236_0), ((HB.out.cell (World.block_lt_of_cell? w _ hw237_0)).trans hw237_0)⟩ (fun hHeld => ?_); refine with_tabW reredoslaw06_BudgetParts.tab11 reredoslaw06_BudgetParts.bits11 (fun HT_ HW_ => ?_)
        generalize wr.drew = w52 at BK227 BK228 BK229 HB hx236_0 hx237_0 hHeld ⊢
        refine pure_ (i := 0) (N := some 36) (v := ?_) (a' := ?_) #[true, false, false, false, false, false, false, false, false, false, false, false, false, false] rfl rfl (any_of HT_.out (by kernel_rfl)) (fun _ _ _ h => h) (Or.inl ⟨by rfl, ?_⟩) ?_ ?_
        rotate_left
        ·intro w'
         go_simp
         with_reducible rfl
        rotate_left
        ·simp only [Act.put, zT, z0, zS, i64_w, i32_w]
         rfl
        refine pure_ (i := 1) (N := some 37) (v := ?_) (a' := ?_) #[true, true, false, false, false, false, false, false, false, false, false, false, false, false] rfl rfl (any_of HT_.out (by kernel_rfl)) (fun _ _ _ h => h) (Or.inl ⟨by rfl, ?_⟩) ?_ ?_
        rotate_left
        ·intro w'
         go_simp
         with_reducible rfl
        rotate_left
        ·simp only [Act.put, zT, z0, zS, i64_w, i32_w]
         rfl
        refine pure_ (i := 2) (N := some 38) (v := ?_) (a' := ?_) #[true, true, true, false, false, false, false, false, false, false, false, false, false, false] rfl rfl (any_of HT_.out (by kernel_rfl)) (fun _ _ _ h => h) (Or.inl ⟨by rfl, ?_⟩) ?_ ?_
        rotate_left
        ·intro w'
         go_simp
         with_reducible rfl
        rotate_left
        ·simp only [Act.put, zT, z0, zS, i64_w, i32_w]
         rfl
        refine pure_ (i := 5) (N := some 41) (v := ?_) (a' := ?_) #[true, true, true, false, false, true, false, false, false, false, false, false, false, false] rfl rfl (any_of HT_.out (by kernel_rfl)) (fun _ _ _ h => h) (Or.inl ⟨by rfl, ?_⟩) ?_ ?_
        rotate_left
        ·intro w'
         go_simp
         with_reducible rfl
        rotate_left
        ·simp only [Act.put, zT, z0, zS, i64_w, i32_w]
         rfl
        refine pure_ (i := 6) (N := some 42) (v := ?_) (a' := ?_) #[true, true, true, false, false, true, true, false, false, false, false, false, false, false] rfl rfl (any_of HT_.out (by kernel_rfl)) (fun _ _ _ h => h) (Or.inl ⟨by rfl, ?_⟩) ?_ ?_
        rotate_left
        ·intro w'
         go_simp
         with_reducible rfl
        rotate_left
        ·simp only [Act.put, zT, z0, zS, i64_w, i32_w]
         rfl
        refine pure_ (i := 7) (N := some 43) (v := ?_) (a' := ?_) #[true, true, true, false, false, true, true, true, false, false, false, false, false, false] rfl rfl (any_of HT_.out (by kernel_rfl)) (fun _ _ _ h => h) (Or.inl ⟨by rfl, ?_⟩) ?_ ?_
        rotate_left
        ·intro w'
         go_simp
         with_reducible rfl
        rotate_left
        ·simp only [Act.put, zT, z0, zS, i64_w, i32_w]
         rfl
        refine take_ (i := 3) (N := some 39) (v := ?_) (a' := ?_) #[true, true, true, true, false, true, true, true, false, false, false, false, false, false] rfl rfl (take_ofW HT_.out HW_.out (by kernel_rfl)) (fun _ _ _ h => h) (Or.inl ⟨by rfl, ?_⟩) hHeld ?_ ?_
        rotate_left
        ·rintro w' ⟨s0, s1⟩
         go_simp
         with_reducible rfl
        rotate_left
        ·simp only [Act.put, zT, z0, zS, i64_w, i32_w]
         rfl
        refine pure_ (i := 4) (N := some 40) (v := ?_) (a' := ?_) #[true, true, true, true, true, true, true, true, false, false, false, false, false, false] rfl rfl (any_of HT_.out (by kernel_rfl)) (fun _ _ _ h => h) (Or.inl ⟨by rfl, ?_⟩) ?_ ?_
        rotate_left
        ·intro w'
         go_simp
         with_reducible rfl
        rotate_left
        ·simp only [Act.put, zT, z0, zS, i64_w, i32_w]
         rfl
        refine take_ (i := 8) (N := some 44) (v := ?_) (a' := ?_) #[true, true, true, true, true, true, true, true, true, false, false, false, false, false] rfl rfl (take_ofW HT_.out HW_.out (by kernel_rfl)) (fun _ _ _ h => h) (Or.inl ⟨by rfl, ?_⟩) hHeld ?_ ?_
        rotate_left
        ·rintro w' ⟨s0, s1⟩
         go_simp
         with_reducible rfl
        rotate_left
        ·simp only [Act.put, zT, z0, zS, i64_w, i32_w]
         rfl
        refine pure_ (i := 9) (N := some 45) (v := ?_) (a' := ?_) #[true, true, true, true, true, true, true, true, true, true, false, false, false, false] rfl rfl (any_of HT_.out (by kernel_rfl)) (fun _ _ _ h => h) (Or.inl ⟨by rfl, ?_⟩) ?_ ?_
        rotate_left
        ·intro w'
         go_simp
         with_reducible rfl
        rotate_left
        ·simp only [Act.put, zT, z0, zS, i64_w, i32_w]
         rfl
        refine pure_ (i := 10) (N := some 46) (v := ?_) (a' := ?_) #[true, true, true, true, true, true, true, true, true, true, true, false, false, false] rfl rfl (any_of HT_.out (by kernel_rfl)) (fun _ _ _ h => h) (Or.inl ⟨by rfl, ?_⟩) ?_ ?_
        rotate_left
        ·intro w'
         go_simp
         with_reducible rfl
        rotate_left
        ·simp only [Act.put, zT, z0, zS, i64_w, i32_w]
         rfl
        refine pure_ (i := 11) (N := some 47) (v := ?_) (a' := ?_) #[true, true, true, true, true, true, true, true, true, true, true, true, false, false] rfl rfl (any_of HT_.out (by kernel_rfl)) (fun _ _ _ h => h) (Or.inl ⟨by rfl, ?_⟩) ?_ ?_
        rotate_left
        ·intro w'
         go_simp
         with_reducible rfl
        rotate_left
        ·simp only [Act.put, zT, z0, zS, i64_w, i32_w]
         rfl
        refine one_ (i := 12) (N := some 13) #[true, true, true, true, true, true, true, true, true, true, true, true, true, false] rfl rfl (one_of HT_.out (by kernel_rfl)) (by decide) (fun K hK => ?_)
        refine box_step ?hg (N := 13) ?hd (cs := #[.int .i64 0, .int .i64 0]) (t := 26) ?hr ?_; (case hd => rfl); (case hg => rfl); (case hr => first | (go_simp; done) | (go_simp; rfl))
        intro gb238 hg w53 hbox hb
        have n0_ := am (bB (g := gb227) (o := .cells #[.int .i64 t225, .int .i64 t226] 26 (0, 0)) (by (with_reducible repeat (first | refine bN ?_ _ | refine bD ?_ | refine bA ?_ _)); exact BK227.out) hb)
        have n1_ := am (bB (g := gb228) (o := .cells #[.int .i64 x229000_1, .int .i64 x229001_1] 26 (0, 0)) (by (with_reducible repeat (first | refine bN ?_ _ | refine bD ?_ | refine bA ?_ _)); exact BK228.out) hb)
        have n2_ := am (bB (g := gb229) (o := .cells #[.int .i64 x230000_1, .int .i64 x230001_1] 26 (0, 0)) (by (with_reducible repeat (first | refine bN ?_ _ | refine bD ?_ | refine bA ?_ _)); exact BK229.out) hb)
        have n3_ := am (below_step (by repeat (first | (with_reducible first | exact HB.out | apply lA | apply lN | apply lD | refine below_set ?_ GE227.out | refine below_set ?_ GE228.out | refine below_set ?_ GE229.out) | exact HB.out)) hb)
        have n4_ := am (hbox)
        have n5_ := am ((by rw [hg]; exact (below_size (by repeat (first | (with_reducible first | exact HB.out | apply lA | apply lN | apply lD | refine below_set ?_ GE227.out | refine below_set ?_ GE228.out | refine below_set ?_ GE229.out) | exact HB.out))) : w.heap.size ≤ gb238))
        have n6_ := n5_
        have n7_ := am ((by rw [hg]; exact Nat.ne_of_lt (blk_lt (g := gb227) (o := .cells #[.int .i64 t225, .int .i64 t226] 26 (0, 0)) (by (with_reducible repeat (first | refine bN ?_ _ | refine bD ?_ | refine bA ?_ _)); exact BK227.out)) : gb227 ≠ gb238))
        have n8_ := am ((by rw [hg]; exact Nat.ne_of_gt (blk_lt (g := gb227) (o := .cells #[.int .i64 t225, .int .i64 t226] 26 (0, 0)) (by (with_reducible repeat (first | refine bN ?_ _ | refine bD ?_ | refine bA ?_ _)); exact BK227.out)) : gb238 ≠ gb227))
        have n9_ := am ((by rw [hg]; exact Nat.ne_of_lt (blk_lt (g := gb228) (o := .cells #[.int .i64 x229000_1, .int .i64 x229001_1] 26 (0, 0)) (by (with_reducible repeat (first | refine bN ?_ _ | refine bD ?_ | refine bA ?_ _)); exact BK228.out)) : gb228 ≠ gb238))
        have n10_ := am ((by rw [hg]; exact Nat.ne_of_gt (blk_lt (g := gb228) (o := .cells #[.int .i64 x229000_1, .int .i64 x229001_1] 26 (0, 0)) (by (with_reducible repeat (first | refine bN ?_ _ | refine bD ?_ | refine bA ?_ _)); exact BK228.out)) : gb238 ≠ gb228))
        have n11_ := am ((by rw [hg]; exact Nat.ne_of_lt (blk_lt (g := gb229) (o := .cells #[.int .i64 x230000_1, .int .i64 x230001_1] 26 (0, 0)) (by (with_reducible repeat (first | refine bN ?_ _ | refine bD ?_ | refine bA ?_ _)); exact BK229.out)) : gb229 ≠ gb238))
        have n12_ := am ((by rw [hg]; exact Nat.ne_of_gt (blk_lt (g := gb229) (o := .cells #[.int .i64 x230000_1, .int .i64 x230001_1] 26 (0, 0)) (by (with_reducible repeat (first | refine bN ?_ _ | refine bD ?_ | refine bA ?_ _)); exact BK229.out)) : gb238 ≠ gb229))
        clear BK227
        clear BK228
        clear BK229
        clear HB
        have BK227 := n0_
        have BK228 := n1_
        have BK229 := n2_
        have HB := n3_
        have BK238 := n4_
        have GW238 := n5_
        have GE238 := n6_
        have NB227_238 := n7_
        have NB238_227 := n8_
        have NB228_238 := n9_
        have NB238_228 := n10_
        have NB229_238 := n11_
        have NB238_229 := n12_
        clear n0_ n1_ n2_ n3_ n4_ n5_ n6_ n7_ n8_ n9_ n10_ n11_ n12_
        clear hb hbox hg
        refine hK.out _ _ ⟨((HB.out.cell (World.block_lt_of_cell? w _ hw236_0)).trans hw236_0), ((HB.out.cell (World.block_lt_of_cell? w _ hw237_0)).trans hw237_0)⟩ (fun hHeld => ?_)
        clear hK K
        refine norm_ (a' := ?_) ?_ ?_
        rotate_left
        ·show Act.put _ (some 13) _ = _
         simp only [Act.put, zT, z0, zS, i64_w, i32_w]
         rfl
        refine one_ (i := 13) (N := none) #[true, true, true, true, true, true, true, true, true, true, true, true, true, true] rfl rfl (one_of HT_.out (by kernel_rfl)) (by decide) (fun K hK => ?_)
        have hs54 : w53.cell? ⟨gb238, 0, none⟩ = some (.int .i64 0) := (blk_cell BK238.out 0).trans rfl
        have hfs54 := blk_frozen BK238.out 0
        have hns54_0 := NB227_238.out
        have hns54_1 := NB228_238.out
        have hns54_2 := NB229_238.out
        have hms54_0 := NB238_227.out
        have hms54_1 := NB238_228.out
        have hms54_2 := NB238_229.out
        have hs55 : w53.cell? ⟨gb238, 1, none⟩ = some (.int .i64 0) := (blk_cell BK238.out 1).trans rfl
        have hfs55 := blk_frozen BK238.out 1
        have hns55_0 := NB227_238.out
        have hns55_1 := NB228_238.out
        have hns55_2 := NB229_238.out
        have hms55_0 := NB238_227.out
        have hms55_1 := NB238_228.out
        have hms55_2 := NB238_229.out
        refine skip_ (w1 := ?_) (by rfl) rfl ?_ ?_
        rotate_left
        ·go_simp
         rfl
        refine hK.out _ _ ⟨((cell_far (p := ⟨gb238, _, none⟩) (by first | exact Nat.ne_of_lt (Nat.lt_of_lt_of_le (by have := World.block_lt_of_cell? _ _ hw236_0; first | rwa [add_block] at this | exact this) GW238.out) | (rw [add_block]; exact Nat.ne_of_lt (Nat.lt_of_lt_of_le (by have := World.block_lt_of_cell? _ _ hw236_0; first | rwa [add_block] at this | exact this) GW238.out)) | (show (Addr.add _ _).block ≠ _; rw [add_block]; exact Nat.ne_of_lt (Nat.lt_of_lt_of_le (by have := World.block_lt_of_cell? _ _ hw236_0; first | rwa [add_block] at this | exact this) GW238.out)) | (dsimp only; exact Nat.ne_of_lt (Nat.lt_of_lt_of_le (by have := World.block_lt_of_cell? _ _ hw236_0; first | rwa [add_block] at this | exact this) GW238.out))) _).trans (((cell_far (p := ⟨gb238, _, none⟩) (by first | exact Nat.ne_of_lt (Nat.lt_of_lt_of_le (by have := World.block_lt_of_cell? _ _ hw236_0; first | rwa [add_block] at this | exact this) GW238.out) | (rw [add_block]; exact Nat.ne_of_lt (Nat.lt_of_lt_of_le (by have := World.block_lt_of_cell? _ _ hw236_0; first | rwa [add_block] at this | exact this) GW238.out)) | (show (Addr.add _ _).block ≠ _; rw [add_block]; exact Nat.ne_of_lt (Nat.lt_of_lt_of_le (by have := World.block_lt_of_cell? _ _ hw236_0; first | rwa [add_block] at this | exact this) GW238.out)) | (dsimp only; exact Nat.ne_of_lt (Nat.lt_of_lt_of_le (by have := World.block_lt_of_cell? _ _ hw236_0; first | rwa [add_block] at this | exact this) GW238.out))) _).trans (hHeld.1)))), ((cell_far (p := ⟨gb238, _, none⟩) (by first | exact Nat.ne_of_lt (Nat.lt_of_lt_of_le (by have := World.block_lt_of_cell? _ _ hw237_0; first | rwa [add_block] at this | exact this) GW238.out) | (rw [add_block]; exact Nat.ne_of_lt (Nat.lt_of_lt_of_le (by have := World.block_lt_of_cell? _ _ hw237_0; first | rwa [add_block] at this | exact this) GW238.out)) | (show (Addr.add _ _).block ≠ _; rw [add_block]; exact Nat.ne_of_lt (Nat.lt_of_lt_of_le (by have := World.block_lt_of_cell? _ _ hw237_0; first | rwa [add_block] at this | exact this) GW238.out)) | (dsimp only; exact Nat.ne_of_lt (Nat.lt_of_lt_of_le (by have := World.block_lt_of_cell? _ _ hw237_0; first | rwa [add_block] at this | exact this) GW238.out))) _).trans (((cell_far (p := ⟨gb238, _, none⟩) (by first | exact Nat.ne_of_lt (Nat.lt_of_lt_of_le (by have := World.block_lt_of_cell? _ _ hw237_0; first | rwa [add_block] at this | exact this) GW238.out) | (rw [add_block]; exact Nat.ne_of_lt (Nat.lt_of_lt_of_le (by have := World.block_lt_of_cell? _ _ hw237_0; first | rwa [add_block] at this | exact this) GW238.out)) | (show (Addr.add _ _).block ≠ _; rw [add_block]; exact Nat.ne_of_lt (Nat.lt_of_lt_of_le (by have := World.block_lt_of_cell? _ _ hw237_0; first | rwa [add_block] at this | exact this) GW238.out)) | (dsimp only; exact Nat.ne_of_lt (Nat.lt_of_lt_of_le (by have := World.block_lt_of_cell? _ _ hw237_0; first | rwa [add_block] at this | exact this) GW238.out))) _).trans (hHeld.2))))⟩ (fun hHeld => ?_)
        clear hK K
        refine done_ (done_of HT_.out (by kernel_rfl)) ?_
        have hnb56 := NB229_227.out
        have hnc56 := NB227_229.out
        have hnb57 := NB229_228.out
        have hnc57 := NB228_229.out
        have hnb58 := NB229_238.out
        have hnc58 := NB238_229.out
        have hcz59_0 : w53.cell? ⟨gb229, 0, none⟩ = some (.int .i64 x230000_1) := (blk_cell BK229.out 0).trans rfl
        have hcz59_1 : w53.cell? ⟨gb229, 1, none⟩ = some (.int .i64 x230001_1) := (blk_cell BK229.out 1).trans rfl
        have hfz59_0 := blk_frozen BK229.out 0
        have hfz59_1 := blk_frozen BK229.out 1
        have hnb60 := NB238_227.out
        have hnc60 := NB227_238.out
        have hnb61 := NB238_228.out
        have hnc61 := NB228_238.out
        have hcz62_0 : w53.cell? ⟨gb238, 0, none⟩ = some (.int .i64 0) := (blk_cell BK238.out 0).trans rfl
        have hcz62_1 : w53.cell? ⟨gb238, 1, none⟩ = some (.int .i64 0) := (blk_cell BK238.out 1).trans rfl
        have hfz62_0 := blk_frozen BK238.out 0
        have hfz62_1 := blk_frozen BK238.out 1
        try go_wp2_with (first | ((with_reducible refine gate_dst (N := 50) rfl ?_); refine Kd.R_lit k26 _ 26 ?hg (N := 50) ?hd (xs := ([(⟨x230000_1, x230001_1⟩ : S26), (⟨wrap64 (rd l2 x12_1), wrap64 (Int.tdiv (wrap64 (rd l2 x12_1)) 3)⟩ : S26)] : List (S26))) (inner := [.int .i64 x230000_1, .int .i64 x230001_1, .int .i64 (wrap64 (rd l2 x12_1)), .int .i64 (wrap64 (Int.tdiv (wrap64 (rd l2 x12_1)) 3))]) (ok := fun _ => True) (okp := fun _ => True) ?hr ?hp (fun _ hk => hk) trivial (Below.refl _ _) (Nat.le_refl _) (by simp) ?_; (case hd => rfl); (case hg => rfl); (case hr => first | (go_simp; done) | (go_simp; rfl)); (case hp => exact (Reps.c2 (show Kd.M k26 _ _ _ (⟨x230000_1, x230001_1⟩ : S26) [.int .i64 x230000_1, .int .i64 x230001_1] from (k26_mkM _ _ _ (⟨x230000_1, x230001_1⟩ : S26) )) (Reps.c2 (show Kd.M k26 _ _ _ (⟨wrap64 (rd l2 x12_1), wrap64 (Int.tdiv (wrap64 (rd l2 x12_1)) 3)⟩ : S26) [.int .i64 (wrap64 (rd l2 x12_1)), .int .i64 (wrap64 (Int.tdiv (wrap64 (rd l2 x12_1)) 3))] from (k26_mkM _ _ _ (⟨wrap64 (rd l2 x12_1), wrap64 (Int.tdiv (wrap64 (rd l2 x12_1)) 3)⟩ : S26) )) (Reps.none _ _)))); intro v240 w63 ho64 hb hg_ hnew_; clear hg_ hnew_; (first | rw [← Ny239.out] at ho64 | (simp only [Int.reduceToNat] at ho64; rw [← Ny239.out] at ho64)); have n0_ := am (Kd.R_lower (Kd.R_newB (Kd.R_newB (Kd.R_newB (Kd.R_newB ho64 (g := gb227) (o := .cells #[.int .i64 t225, .int .i64 t226] 26 (0, 0)) (by (with_reducible repeat (first | refine bN ?_ _ | refine bD ?_ | refine bA ?_ _)); refine blk_far ?_ NB227_238.out _; (with_reducible repeat (first | refine bN ?_ _ | refine bD ?_ | refine bA ?_ _)); refine blk_far ?_ NB227_238.out _; (with_reducible repeat (first | refine bN ?_ _ | refine bD ?_ | refine bA ?_ _)); exact BK227.out)) (g := gb228) (o := .cells #[.int .i64 x229000_1, .int .i64 x229001_1] 26 (0, 0)) (by (with_reducible repeat (first | refine bN ?_ _ | refine bD ?_ | refine bA ?_ _)); refine blk_far ?_ NB228_238.out _; (with_reducible repeat (first | refine bN ?_ _ | refine bD ?_ | refine bA ?_ _)); refine blk_far ?_ NB228_238.out _; (with_reducible repeat (first | refine bN ?_ _ | refine bD ?_ | refine bA ?_ _)); exact BK228.out)) (g := gb229) (o := .cells #[.int .i64 x230000_1, .int .i64 x230001_1] 26 (0, 0)) (by (with_reducible repeat (first | refine bN ?_ _ | refine bD ?_ | refine bA ?_ _)); refine blk_far ?_ NB229_238.out _; (with_reducible repeat (first | refine bN ?_ _ | refine bD ?_ | refine bA ?_ _)); refine blk_far ?_ NB229_238.out _; (with_reducible repeat (first | refine bN ?_ _ | refine bD ?_ | refine bA ?_ _)); exact BK229.out)) (g := gb238) (o := .cells #[.int .i64 (wrap64 (rd l2 x12_1)), .int .i64 (wrap64 (Int.tdiv (wrap64 (rd l2 x12_1)) 3))] 26 (0, 0)) (by (with_reducible repeat (first | refine bN ?_ _ | refine bD ?_ | refine bA ?_ _)); refine blk_put (cs := #[.int .i64 (wrap64 (rd l2 x12_1)), .int .i64 0]) ?_ 1 _ rfl; (with_reducible repeat (first | refine bN ?_ _ | refine bD ?_ | refine bA ?_ _)); refine blk_put (cs := #[.int .i64 0, .int .i64 0]) ?_ 0 _ rfl; (with_reducible repeat (first | refine bN ?_ _ | refine bD ?_ | refine bA ?_ _)); exact BK238.out)) (below_size (by repeat (first | (with_reducible first | exact HB.out | apply lA | apply lN | apply lD | refine below_set ?_ GE227.out | refine below_set ?_ GE228.out | refine below_set ?_ GE229.out | refine below_set ?_ GE238.out) | exact HB.out)))); have n1_ := am (bB (g := gb227) (o := .cells #[.int .i64 t225, .int .i64 t226] 26 (0, 0)) (by (with_reducible repeat (first | refine bN ?_ _ | refine bD ?_ | refine bA ?_ _)); refine blk_far ?_ NB227_238.out _; (with_reducible repeat (first | refine bN ?_ _ | refine bD ?_ | refine bA ?_ _)); refine blk_far ?_ NB227_238.out _; (with_reducible repeat (first | refine bN ?_ _ | refine bD ?_ | refine bA ?_ _)); exact BK227.out) hb); have n2_ := am (bB (g := gb228) (o := .cells #[.int .i64 x229000_1, .int .i64 x229001_1] 26 (0, 0)) (by (with_reducible repeat (first | refine bN ?_ _ | refine bD ?_ | refine bA ?_ _)); refine blk_far ?_ NB228_238.out _; (with_reducible repeat (first | refine bN ?_ _ | refine bD ?_ | refine bA ?_ _)); refine blk_far ?_ NB228_238.out _; (with_reducible repeat (first | refine bN ?_ _ | refine bD ?_ | refine bA ?_ _)); exact BK228.out) hb); have n3_ := am (bB (g := gb229) (o := .cells #[.int .i64 x230000_1, .int .i64 x230001_1] 26 (0, 0)) (by (with_reducible repeat (first | refine bN ?_ _ | refine bD ?_ | refine bA ?_ _)); refine blk_far ?_ NB229_238.out _; (with_reducible repeat (first | refine bN ?_ _ | refine bD ?_ | refine bA ?_ _)); refine blk_far ?_ NB229_238.out _; (with_reducible repeat (first | refine bN ?_ _ | refine bD ?_ | refine bA ?_ _)); exact BK229.out) hb); have n4_ := am (bB (g := gb238) (o := .cells #[.int .i64 (wrap64 (rd l2 x12_1)), .int .i64 (wrap64 (Int.tdiv (wrap64 (rd l2 x12_1)) 3))] 26 (0, 0)) (by (with_reducible repeat (first | refine bN ?_ _ | refine bD ?_ | refine bA ?_ _)); refine blk_put (cs := #[.int .i64 (wrap64 (rd l2 x12_1)), .int .i64 0]) ?_ 1 _ rfl; (with_reducible repeat (first | refine bN ?_ _ | refine bD ?_ | refine bA ?_ _)); refine blk_put (cs := #[.int .i64 0, .int .i64 0]) ?_ 0 _ rfl; (with_reducible repeat (first | refine bN ?_ _ | refine bD ?_ | refine bA ?_ _)); exact BK238.out) hb); have n5_ := am (below_step (by repeat (first | (with_reducible first | exact HB.out | apply lA | apply lN | apply lD | refine below_set ?_ GE227.out | refine below_set ?_ GE228.out | refine below_set ?_ GE229.out | refine below_set ?_ GE238.out) | exact HB.out)) hb); clear BK227; clear BK228; clear BK229; clear BK238; clear HB; have HO241 := n0_; have BK227 := n1_; have BK228 := n2_; have BK229 := n3_; have BK238 := n4_; have HB := n5_; clear n0_ n1_ n2_ n3_ n4_ n5_; clear hb ho64; obtain ⟨Ao65, co65, eo65⟩ := Kd.R_slice HO241.out; subst eo65) | ((with_reducible refine gate_callee (f := 23) rfl ?_); refine goesL_ (some 51) rfl rfl Try.func23 (by kernel_rfl) rfl #[.slice Ao65 y239.length co65] rfl (by (try simp only [List.map_toArray, List.map_cons, List.map_nil]); first | done | rfl | (simp only [List.length_drop, List.length_take]; rfl)) ?_; (with_reducible refine (budget_Sum.calls _ _ y239 t242 t243 _ ?side1 ?side2 A21.out).mono ?_); (case side1 => repeat (first | exact (Kd.R_reads' HO241.out).2.2 | (with_reducible refine Kd.C_alloc ?_ _) | (with_reducible refine Kd.C_drewN ?_ _) | (with_reducible refine Kd.C_drew ?_))); (case side2 => exact (Kd.R_reads' HO241.out).2.1); rintro e w66 ⟨rfl, hb⟩; refine ⟨_, rfl, ?_⟩; have n0_ := am (Kd.R_below (by (with_reducible repeat (first | apply Kd.R_alloc | apply Kd.R_drewN | apply Kd.R_drew)); exact HO241.out) hb); have n1_ := am (bB (g := gb227) (o := .cells #[.int .i64 t225, .int .i64 t226] 26 (0, 0)) (by (with_reducible repeat (first | refine bN ?_ _ | refine bD ?_ | refine bA ?_ _)); exact BK227.out) hb); have n2_ := am (bB (g := gb228) (o := .cells #[.int .i64 x229000_1, .int .i64 x229001_1] 26 (0, 0)) (by (with_reducible repeat (first | refine bN ?_ _ | refine bD ?_ | refine bA ?_ _)); exact BK228.out) hb); have n3_ := am (bB (g := gb229) (o := .cells #[.int .i64 x230000_1, .int .i64 x230001_1] 26 (0, 0)) (by (with_reducible repeat (first | refine bN ?_ _ | refine bD ?_ | refine bA ?_ _)); exact BK229.out) hb); have n4_ := am (bB (g := gb238) (o := .cells #[.int .i64 (wrap64 (rd l2 x12_1)), .int .i64 (wrap64 (Int.tdiv (wrap64 (rd l2 x12_1)) 3))] 26 (0, 0)) (by (with_reducible repeat (first | refine bN ?_ _ | refine bD ?_ | refine bA ?_ _)); exact BK238.out) hb); have n5_ := am (below_step (by repeat (first | (with_reducible first | exact HB.out | apply lA | apply lN | apply lD | refine below_set ?_ GE227.out | refine below_set ?_ GE228.out | refine below_set ?_ GE229.out | refine below_set ?_ GE238.out) | exact HB.out)) hb); clear HO241; clear BK227; clear BK228; clear BK229; clear BK238; clear HB; have HO241 := n0_; have BK227 := n1_; have BK228 := n2_; have BK229 := n3_; have BK238 := n4_; have HB := n5_; clear n0_ n1_ n2_ n3_ n4_ n5_; (try clear hb); (try clear hb2); (try clear hk); (try clear hi); have hcz67_0 : w66.cell? ⟨gb229, 0, none⟩ = some (.int .i64 x230000_1) := (blk_cell BK229.out 0).trans rfl; have hcz67_1 : w66.cell? ⟨gb229, 1, none⟩ = some (.int .i64 x230001_1) := (blk_cell BK229.out 1).trans rfl; have hfz67_0 := blk_frozen BK229.out 0; have hfz67_1 := blk_frozen BK229.out 1; have hnb68 := NB228_227.out; have hnc68 := NB227_228.out; have hcz69_0 : w66.cell? ⟨gb228, 0, none⟩ = some (.int .i64 x229000_1) := (blk_cell BK228.out 0).trans rfl; have hcz69_1 : w66.cell? ⟨gb228, 1, none⟩ = some (.int .i64 x229001_1) := (blk_cell BK228.out 1).trans rfl; have hfz69_0 := blk_frozen BK228.out 0; have hfz69_1 := blk_frozen BK228.out 1; have hcz70_0 : w66.cell? ⟨gb238, 0, none⟩ = some (.int .i64 (wrap64 (rd l2 x12_1))) := (blk_cell BK238.out 0).trans rfl; have hcz70_1 : w66.cell? ⟨gb238, 1, none⟩ = some (.int .i64 (wrap64 (Int.tdiv (wrap64 (rd l2 x12_1)) 3))) := (blk_cell BK238.out 1).trans rfl; have hfz70_0 := blk_frozen BK238.out 0; have hfz70_1 := blk_frozen BK238.out 1) | ((with_reducible refine gate_callee (f := 14) rfl ?_); refine goesL_ (some 56) rfl rfl Try.func14 (by kernel_rfl) rfl #[.agg #[.int .i64 x229000_1, .int .i64 x229001_1], .agg #[.int .i64 (wrap64 (rd l2 x12_1)), .int .i64 (wrap64 (Int.tdiv (wrap64 (rd l2 x12_1)) 3))]] rfl (by (try simp only [List.map_toArray, List.map_cons, List.map_nil]); first | done | rfl | (simp only [List.length_drop, List.length_take]; rfl)) ?_; (with_reducible refine (budget_Budget_Pay.calls x229000_1 x229001_1 (wrap64 (rd l2 x12_1)) (wrap64 (Int.tdiv (wrap64 (rd l2 x12_1)) 3)) t244 t245 t246 _ A23.out).mono ?_); rintro e w71 ⟨rfl, hb⟩; refine ⟨_, rfl, ?_⟩; have n0_ := am (Kd.R_below (by (with_reducible repeat (first | apply Kd.R_alloc | apply Kd.R_drewN | apply Kd.R_drew)); exact (Kd.R_mono (Kd.R_far (p := ⟨gb229, 1, none⟩) (Kd.R_far (p := ⟨gb229, 0, none⟩) (Kd.R_mono HO241.out (fun k_ hk => (⟨hk, hk.1.2⟩ : _ ∧ k_ ≠ gb229))) (fun _ hk => hk.2) (.int .i64 t242)) (fun _ hk => hk.2) (.int .i64 t243)) (fun _ h_ => h_.1))) hb); have n1_ := am (bB (g := gb227) (o := .cells #[.int .i64 t225, .int .i64 t226] 26 (0, 0)) (by (with_reducible repeat (first | refine bN ?_ _ | refine bD ?_ | refine bA ?_ _)); refine blk_far ?_ NB227_229.out _; (with_reducible repeat (first | refine bN ?_ _ | refine bD ?_ | refine bA ?_ _)); refine blk_far ?_ NB227_229.out _; (with_reducible repeat (first | refine bN ?_ _ | refine bD ?_ | refine bA ?_ _)); exact BK227.out) hb); have n2_ := am (bB (g := gb228) (o := .cells #[.int .i64 x229000_1, .int .i64 x229001_1] 26 (0, 0)) (by (with_reducible repeat (first | refine bN ?_ _ | refine bD ?_ | refine bA ?_ _)); refine blk_far ?_ NB228_229.out _; (with_reducible repeat (first | refine bN ?_ _ | refine bD ?_ | refine bA ?_ _)); refine blk_far ?_ NB228_229.out _; (with_reducible repeat (first | refine bN ?_ _ | refine bD ?_ | refine bA ?_ _)); exact BK228.out) hb); have n3_ := am (bB (g := gb229) (o := .cells #[.int .i64 t242, .int .i64 t243] 26 (0, 0)) (by (with_reducible repeat (first | refine bN ?_ _ | refine bD ?_ | refine bA ?_ _)); refine blk_put (cs := #[.int .i64 t242, .int .i64 x230001_1]) ?_ 1 _ rfl; (with_reducible repeat (first | refine bN ?_ _ | refine bD ?_ | refine bA ?_ _)); refine blk_put (cs := #[.int .i64 x230000_1, .int .i64 x230001_1]) ?_ 0 _ rfl; (with_reducible repeat (first | refine bN ?_ _ | refine bD ?_ | refine bA ?_ _)); exact BK229.out) hb); have n4_ := am (bB (g := gb238) (o := .cells #[.int .i64 (wrap64 (rd l2 x12_1)), .int .i64 (wrap64 (Int.tdiv (wrap64 (rd l2 x12_1)) 3))] 26 (0, 0)) (by (with_reducible repeat (first | refine bN ?_ _ | refine bD ?_ | refine bA ?_ _)); refine blk_far ?_ NB238_229.out _; (with_reducible repeat (first | refine bN ?_ _ | refine bD ?_ | refine bA ?_ _)); refine blk_far ?_ NB238_229.out _; (with_reducible repeat (first | refine bN ?_ _ | refine bD ?_ | refine bA ?_ _)); exact BK238.out) hb); have n5_ := am (below_step (by repeat (first | (with_reducible first | exact HB.out | apply lA | apply lN | apply lD | refine below_set ?_ GE227.out | refine below_set ?_ GE228.out | refine below_set ?_ GE229.out | refine below_set ?_ GE238.out) | exact HB.out)) hb); clear HO241; clear BK227; clear BK228; clear BK229; clear BK238; clear HB; have HO241 := n0_; have BK227 := n1_; have BK228 := n2_; have BK229 := n3_; have BK238 := n4_; have HB := n5_; clear n0_ n1_ n2_ n3_ n4_ n5_; (try clear hb); (try clear hb2); (try clear hk); (try clear hi)) | ((with_reducible refine gate_dst (N := 14) rfl ?_); refine box_event ?hg (N := 14) ?hd (cs := #[.int .i64 0, .int .i64 0]) (t := 26) ?hr ?_; (case hd => rfl); (case hg => rfl); (case hr => first | (go_simp; done) | (go_simp; rfl)); intro gb247 hg w72 hbox hb; have n0_ := am (Kd.R_below (Kd.R_elderB (by (with_reducible repeat (first | apply Kd.R_alloc | apply Kd.R_drewN | apply Kd.R_drew)); exact HO241.out) gb247 (Nat.le_of_eq hg.symm)) hb); have n1_ := am (bB (g := gb227) (o := .cells #[.int .i64 t225, .int .i64 t226] 26 (0, 0)) (by (with_reducible repeat (first | refine bN ?_ _ | refine bD ?_ | refine bA ?_ _)); exact BK227.out) hb); have n2_ := am (bB (g := gb228) (o := .cells #[.int .i64 x229000_1, .int .i64 x229001_1] 26 (0, 0)) (by (with_reducible repeat (first | refine bN ?_ _ | refine bD ?_ | refine bA ?_ _)); exact BK228.out) hb); have n3_ := am (bB (g := gb229) (o := .cells #[.int .i64 t242, .int .i64 t243] 26 (0, 0)) (by (with_reducible repeat (first | refine bN ?_ _ | refine bD ?_ | refine bA ?_ _)); exact BK229.out) hb); have n4_ := am (bB (g := gb238) (o := .cells #[.int .i64 (wrap64 (rd l2 x12_1)), .int .i64 (wrap64 (Int.tdiv (wrap64 (rd l2 x12_1)) 3))] 26 (0, 0)) (by (with_reducible repeat (first | refine bN ?_ _ | refine bD ?_ | refine bA ?_ _)); exact BK238.out) hb); have n5_ := am (below_step (by repeat (first | (with_reducible first | exact HB.out | apply lA | apply lN | apply lD | refine below_set ?_ GE227.out | refine below_set ?_ GE228.out | refine below_set ?_ GE229.out | refine below_set ?_ GE238.out) | exact HB.out)) hb); have n6_ := am (hbox); have n7_ := am ((by rw [hg]; exact (below_size (by repeat (first | (with_reducible first | exact HB.out | apply lA | apply lN | apply lD | refine below_set ?_ GE227.out | refine below_set ?_ GE228.out | refine below_set ?_ GE229.out | refine below_set ?_ GE238.out) | exact HB.out))) : w.heap.size ≤ gb247)); have n8_ := n7_; have n9_ := am ((by rw [hg]; exact Nat.ne_of_lt (blk_lt (g := gb227) (o := .cells #[.int .i64 t225, .int .i64 t226] 26 (0, 0)) (by (with_reducible repeat (first | refine bN ?_ _ | refine bD ?_ | refine bA ?_ _)); exact BK227.out)) : gb227 ≠ gb247)); have n10_ := am ((by rw [hg]; exact Nat.ne_of_gt (blk_lt (g := gb227) (o := .cells #[.int .i64 t225, .int .i64 t226] 26 (0, 0)) (by (with_reducible repeat (first | refine bN ?_ _ | refine bD ?_ | refine bA ?_ _)); exact BK227.out)) : gb247 ≠ gb227)); have n11_ := am ((by rw [hg]; exact Nat.ne_of_lt (blk_lt (g := gb228) (o := .cells #[.int .i64 x229000_1, .int .i64 x229001_1] 26 (0, 0)) (by (with_reducible repeat (first | refine bN ?_ _ | refine bD ?_ | refine bA ?_ _)); exact BK228.out)) : gb228 ≠ gb247)); have n12_ := am ((by rw [hg]; exact Nat.ne_of_gt (blk_lt (g := gb228) (o := .cells #[.int .i64 x229000_1, .int .i64 x229001_1] 26 (0, 0)) (by (with_reducible repeat (first | refine bN ?_ _ | refine bD ?_ | refine bA ?_ _)); exact BK228.out)) : gb247 ≠ gb228)); have n13_ := am ((by rw [hg]; exact Nat.ne_of_lt (blk_lt (g := gb229) (o := .cells #[.int .i64 t242, .int .i64 t243] 26 (0, 0)) (by (with_reducible repeat (first | refine bN ?_ _ | refine bD ?_ | refine bA ?_ _)); exact BK229.out)) : gb229 ≠ gb247)); have n14_ := am ((by rw [hg]; exact Nat.ne_of_gt (blk_lt (g := gb229) (o := .cells #[.int .i64 t242, .int .i64 t243] 26 (0, 0)) (by (with_reducible repeat (first | refine bN ?_ _ | refine bD ?_ | refine bA ?_ _)); exact BK229.out)) : gb247 ≠ gb229)); have n15_ := am ((by rw [hg]; exact Nat.ne_of_lt (blk_lt (g := gb238) (o := .cells #[.int .i64 (wrap64 (rd l2 x12_1)), .int .i64 (wrap64 (Int.tdiv (wrap64 (rd l2 x12_1)) 3))] 26 (0, 0)) (by (with_reducible repeat (first | refine bN ?_ _ | refine bD ?_ | refine bA ?_ _)); exact BK238.out)) : gb238 ≠ gb247)); have n16_ := am ((by rw [hg]; exact Nat.ne_of_gt (blk_lt (g := gb238) (o := .cells #[.int .i64 (wrap64 (rd l2 x12_1)), .int .i64 (wrap64 (Int.tdiv (wrap64 (rd l2 x12_1)) 3))] 26 (0, 0)) (by (with_reducible repeat (first | refine bN ?_ _ | refine bD ?_ | refine bA ?_ _)); exact BK238.out)) : gb247 ≠ gb238)); clear HO241; clear BK227; clear BK228; clear BK229; clear BK238; clear HB; have HO241 := n0_; have BK227 := n1_; have BK228 := n2_; have BK229 := n3_; have BK238 := n4_; have HB := n5_; have BK247 := n6_; have GW247 := n7_; have GE247 := n8_; have NB227_247 := n9_; have NB247_227 := n10_; have NB228_247 := n11_; have NB247_228 := n12_; have NB229_247 := n13_; have NB247_229 := n14_; have NB238_247 := n15_; have NB247_238 := n16_; clear n0_ n1_ n2_ n3_ n4_ n5_ n6_ n7_ n8_ n9_ n10_ n11_ n12_ n13_ n14_ n15_ n16_; clear hb hbox hg; have hnb73 := NB247_227.out; have hnc73 := NB227_247.out; have hnb74 := NB247_228.out; have hnc74 := NB228_247.out; have hnb75 := NB247_229.out; have hnc75 := NB229_247.out; have hnb76 := NB247_238.out; have hnc76 := NB238_247.out; have hcz77_0 : w72.cell? ⟨gb247, 0, none⟩ = some (.int .i64 0) := (blk_cell BK247.out 0).trans rfl; have hcz77_1 : w72.cell? ⟨gb247, 1, none⟩ = some (.int .i64 0) := (blk_cell BK247.out 1).trans rfl; have hfz77_0 := blk_frozen BK247.out 0; have hfz77_1 := blk_frozen BK247.out 1))
        go_roundg k1
        case measure => have := HK1.out; omega
        case rel => exact ⟨((t246 == 0)), (wrap64 (x12_1 + 1)), (x229000_1), (x229001_1), (t242), (t243), (by first | rfl | (simp; done) | (simp [*]; done)), (by first | rfl | (simp; done) | (simp [*]; done)), H', ⟨by have := HK1.out; omega⟩, ⟨by (with_reducible repeat (first | refine bN ?_ _ | refine bD ?_ | refine bA ?_ _)); refine blk_far ?_ NB227_247.out _; (with_reducible repeat (first | refine bN ?_ _ | refine bD ?_ | refine bA ?_ _)); refine blk_far ?_ NB227_247.out _; (with_reducible repeat (first | refine bN ?_ _ | refine bD ?_ | refine bA ?_ _)); exact BK227.out⟩, ⟨by (with_reducible repeat (first | refine bN ?_ _ | refine bD ?_ | refine bA ?_ _)); refine blk_far ?_ NB228_247.out _; (with_reducible repeat (first | refine bN ?_ _ | refine bD ?_ | refine bA ?_ _)); refine blk_far ?_ NB228_247.out _; (with_reducible repeat (first | refine bN ?_ _ | refine bD ?_ | refine bA ?_ _)); exact BK228.out⟩, ⟨by (with_reducible repeat (first | refine bN ?_ _ | refine bD ?_ | refine bA ?_ _)); refine blk_far ?_ NB229_247.out _; (with_reducible repeat (first | refine bN ?_ _ | refine bD ?_ | refine bA ?_ _)); refine blk_far ?_ NB229_247.out _; (with_reducible repeat (first | refine bN ?_ _ | refine bD ?_ | refine bA ?_ _)); exact BK229.out⟩, ⟨by repeat (first | (with_reducible first | exact HB.out | apply lA | apply lN | apply lD | refine below_set ?_ GE227.out | refine below_set ?_ GE228.out | refine below_set ?_ GE229.out | refine below_set ?_ GE238.out | refine below_set ?_ GE247.out) | exact HB.out)⟩⟩
      ·replace c22 := Bool.eq_false_iff.mpr c22
       subst c22
       have H1 : (reredoslaw06_BudgetParts.l0 k1 l2 t224 false (wrap64 (x12_1 + 1)) t225 t226 x229000_1 x229001_1 t242 t243) = some r := by rw [if_neg (show ¬ (false = true) by decide)] at H; exact H
       clear H
       have H := H1
       clear H1
       have H' := am H
       clear H
       try go_wp2
       have n0_ := am (bD BK227.out)
       have n1_ := am (bD BK228.out)
       have n2_ := am (bD BK229.out)
       have n3_ := am (lD HB.out)
       clear BK227
       clear BK228
       clear BK229
       clear HB
       have BK227 := n0_
       have BK228 := n1_
       have BK229 := n2_
       have HB := n3_
       clear n0_ n1_ n2_ n3_
       have p236 : 0 ≤ (x12_1 : Int) := of_decide_eq_true (by first | (with_reducible assumption) | assumption)
       have q236 : x12_1 < (l2.length : Int) := of_decide_eq_true (by first | (with_reducible assumption) | assumption)
       obtain ⟨ad236, e236, hx236_0⟩ := Kd.at_int HR2.out x12_1 p236 q236
       have hw236_0 := hx236_0
       cases e236
       replace hx236_0 := (HB.out.cell (World.block_lt_of_cell? w _ hx236_0)).trans hx236_0
       replace p236 := eq_true p236
       replace q236 := eq_true q236
       have p237 : 0 ≤ (x12_1 : Int) := of_decide_eq_true (by first | (with_reducible assumption) | assumption)
       have q237 : x12_1 < (l2.length : Int) := of_decide_eq_true (by first | (with_reducible assumption) | assumption)
       obtain ⟨ad237, e237, hx237_0⟩ := Kd.at_int HR2.out x12_1 p237 q237
       have hw237_0 := hx237_0
       obtain rfl : ad236 = ad237 := (by injection e237)
       replace hx237_0 := (HB.out.cell (World.block_lt_of_cell? w _ hx237_0)).trans hx237_0
       replace p237 := eq_true p237
       replace q237 := eq_true q237
       refine start_ (n := 14) (S := fun w' => w'.cell? (ad236.add (x12_1).toNat) = some (.int .u16 (rd l2 x12_1)) ∧ w'.cell? (ad236.add (x12_1).toNat) = some (.int .u16 (rd l2 x12_1))) (ds := []) #[false, false, false, false, false, false, false, false, false, false, false, false, false, false] (by kernel_rfl) rfl rfl ⟨((HB.out.cell (World.block_lt_of_cell? w _ hw236_0)).trans hw236_0), ((HB.out.cell (World.block_lt_of_cell? w _ hw237_0)).trans hw237_0)⟩ (fun hHeld => ?_); refine with_tabW reredoslaw06_BudgetParts.tab11 reredoslaw06_BudgetParts.bits11 (fun HT_ HW_ => ?_)
       generalize wr.drew = w78 at BK227 BK228 BK229 HB hx236_0 hx237_0 hHeld ⊢
       refine pure_ (i := 0) (N := some 36) (v := ?_) (a' := ?_) #[true, false, false, false, false, false, false, false, false, false, false, false, false, false] rfl rfl (any_of HT_.out (by kernel_rfl)) (fun _ _ _ h => h) (Or.inl ⟨by rfl, ?_⟩) ?_ ?_
       rotate_left
       ·intro w'
        go_simp
        with_reducible rfl
       rotate_left
       ·simp only [Act.put, zT, z0, zS, i64_w, i32_w]
        rfl
       refine pure_ (i := 1) (N := some 37) (v := ?_) (a' := ?_) #[true, true, false, false, false, false, false, false, false, false, false, false, false, false] rfl rfl (any_of HT_.out (by kernel_rfl)) (fun _ _ _ h => h) (Or.inl ⟨by rfl, ?_⟩) ?_ ?_
       rotate_left
       ·intro w'
        go_simp
        with_reducible rfl
       rotate_left
       ·simp only [Act.put, zT, z0, zS, i64_w, i32_w]
        rfl
       refine pure_ (i := 2) (N := some 38) (v := ?_) (a' := ?_) #[true, true, true, false, false, false, false, false, false, false, false, false, false, false] rfl rfl (any_of HT_.out (by kernel_rfl)) (fun _ _ _ h => h) (Or.inl ⟨by rfl, ?_⟩) ?_ ?_
       rotate_left
       ·intro w'
        go_simp
        with_reducible rfl
       rotate_left
       ·simp only [Act.put, zT, z0, zS, i64_w, i32_w]
        rfl
       refine pure_ (i := 5) (N := some 41) (v := ?_) (a' := ?_) #[true, true, true, false, false, true, false, false, false, false, false, false, false, false] rfl rfl (any_of HT_.out (by kernel_rfl)) (fun _ _ _ h => h) (Or.inl ⟨by rfl, ?_⟩) ?_ ?_
       rotate_left
       ·intro w'
        go_simp
        with_reducible rfl
       rotate_left
       ·simp only [Act.put, zT, z0, zS, i64_w, i32_w]
        rfl
       refine pure_ (i := 6) (N := some 42) (v := ?_) (a' := ?_) #[true, true, true, false, false, true, true, false, false, false, false, false, false, false] rfl rfl (any_of HT_.out (by kernel_rfl)) (fun _ _ _ h => h) (Or.inl ⟨by rfl, ?_⟩) ?_ ?_
       rotate_left
       ·intro w'
        go_simp
        with_reducible rfl
       rotate_left
       ·simp only [Act.put, zT, z0, zS, i64_w, i32_w]
        rfl
       refine pure_ (i := 7) (N := some 43) (v := ?_) (a' := ?_) #[true, true, true, false, false, true, true, true, false, false, false, false, false, false] rfl rfl (any_of HT_.out (by kernel_rfl)) (fun _ _ _ h => h) (Or.inl ⟨by rfl, ?_⟩) ?_ ?_
       rotate_left
       ·intro w'
        go_simp
        with_reducible rfl
       rotate_left
       ·simp only [Act.put, zT, z0, zS, i64_w, i32_w]
        rfl
       refine take_ (i := 3) (N := some 39) (v := ?_) (a' := ?_) #[true, true, true, true, false, true, true, true, false, false, false, false, false, false] rfl rfl (take_ofW HT_.out HW_.out (by kernel_rfl)) (fun _ _ _ h => h) (Or.inl ⟨by rfl, ?_⟩) hHeld ?_ ?_
       rotate_left
       ·rintro w' ⟨s0, s1⟩
        go_simp
        with_reducible rfl
       rotate_left
       ·simp only [Act.put, zT, z0, zS, i64_w, i32_w]
        rfl
       refine pure_ (i := 4) (N := some 40) (v := ?_) (a' := ?_) #[true, true, true, true, true, true, true, true, false, false, false, false, false, false] rfl rfl (any_of HT_.out (by kernel_rfl)) (fun _ _ _ h => h) (Or.inl ⟨by rfl, ?_⟩) ?_ ?_
       rotate_left
       ·intro w'
        go_simp
        with_reducible rfl
       rotate_left
       ·simp only [Act.put, zT, z0, zS, i64_w, i32_w]
        rfl
       refine take_ (i := 8) (N := some 44) (v := ?_) (a' := ?_) #[true, true, true, true, true, true, true, true, true, false, false, false, false, false] rfl rfl (take_ofW HT_.out HW_.out (by kernel_rfl)) (fun _ _ _ h => h) (Or.inl ⟨by rfl, ?_⟩) hHeld ?_ ?_
       rotate_left
       ·rintro w' ⟨s0, s1⟩
        go_simp
        with_reducible rfl
       rotate_left
       ·simp only [Act.put, zT, z0, zS, i64_w, i32_w]
        rfl
       refine pure_ (i := 9) (N := some 45) (v := ?_) (a' := ?_) #[true, true, true, true, true, true, true, true, true, true, false, false, false, false] rfl rfl (any_of HT_.out (by kernel_rfl)) (fun _ _ _ h => h) (Or.inl ⟨by rfl, ?_⟩) ?_ ?_
       rotate_left
       ·intro w'
        go_simp
        with_reducible rfl
       rotate_left
       ·simp only [Act.put, zT, z0, zS, i64_w, i32_w]
        rfl
       refine pure_ (i := 10) (N := some 46) (v := ?_) (a' := ?_) #[true, true, true, true, true, true, true, true, true, true, true, false, false, false] rfl rfl (any_of HT_.out (by kernel_rfl)) (fun _ _ _ h => h) (Or.inl ⟨by rfl, ?_⟩) ?_ ?_
       rotate_left
       ·intro w'
        go_simp
        with_reducible rfl
       rotate_left
       ·simp only [Act.put, zT, z0, zS, i64_w, i32_w]
        rfl
       refine pure_ (i := 11) (N := some 47) (v := ?_) (a' := ?_) #[true, true, true, true, true, true, true, true, true, true, true, true, false, false] rfl rfl (any_of HT_.out (by kernel_rfl)) (fun _ _ _ h => h) (Or.inl ⟨by rfl, ?_⟩) ?_ ?_
       rotate_left
       ·intro w'
        go_simp
        with_reducible rfl
       rotate_left
       ·simp only [Act.put, zT, z0, zS, i64_w, i32_w]
        rfl
       refine one_ (i := 12) (N := some 13) #[true, true, true, true, true, true, true, true, true, true, true, true, true, false] rfl rfl (one_of HT_.out (by kernel_rfl)) (by decide) (fun K hK => ?_)
       refine box_step ?hg (N := 13) ?hd (cs := #[.int .i64 0, .int .i64 0]) (t := 26) ?hr ?_; (case hd => rfl); (case hg => rfl); (case hr => first | (go_simp; done) | (go_simp; rfl))
       intro gb238 hg w79 hbox hb
       have n0_ := am (bB (g := gb227) (o := .cells #[.int .i64 t225, .int .i64 t226] 26 (0, 0)) (by (with_reducible repeat (first | refine bN ?_ _ | refine bD ?_ | refine bA ?_ _)); exact BK227.out) hb)
       have n1_ := am (bB (g := gb228) (o := .cells #[.int .i64 x229000_1, .int .i64 x229001_1] 26 (0, 0)) (by (with_reducible repeat (first | refine bN ?_ _ | refine bD ?_ | refine bA ?_ _)); exact BK228.out) hb)
       have n2_ := am (bB (g := gb229) (o := .cells #[.int .i64 x230000_1, .int .i64 x230001_1] 26 (0, 0)) (by (with_reducible repeat (first | refine bN ?_ _ | refine bD ?_ | refine bA ?_ _)); exact BK229.out) hb)
       have n3_ := am (below_step (by repeat (first | (with_reducible first | exact HB.out | apply lA | apply lN | apply lD | refine below_set ?_ GE227.out | refine below_set ?_ GE228.out | refine below_set ?_ GE229.out) | exact HB.out)) hb)
       have n4_ := am (hbox)
       have n5_ := am ((by rw [hg]; exact (below_size (by repeat (first | (with_reducible first | exact HB.out | apply lA | apply lN | apply lD | refine below_set ?_ GE227.out | refine below_set ?_ GE228.out | refine below_set ?_ GE229.out) | exact HB.out))) : w.heap.size ≤ gb238))
       have n6_ := n5_
       have n7_ := am ((by rw [hg]; exact Nat.ne_of_lt (blk_lt (g := gb227) (o := .cells #[.int .i64 t225, .int .i64 t226] 26 (0, 0)) (by (with_reducible repeat (first | refine bN ?_ _ | refine bD ?_ | refine bA ?_ _)); exact BK227.out)) : gb227 ≠ gb238))
       have n8_ := am ((by rw [hg]; exact Nat.ne_of_gt (blk_lt (g := gb227) (o := .cells #[.int .i64 t225, .int .i64 t226] 26 (0, 0)) (by (with_reducible repeat (first | refine bN ?_ _ | refine bD ?_ | refine bA ?_ _)); exact BK227.out)) : gb238 ≠ gb227))
       have n9_ := am ((by rw [hg]; exact Nat.ne_of_lt (blk_lt (g := gb228) (o := .cells #[.int .i64 x229000_1, .int .i64 x229001_1] 26 (0, 0)) (by (with_reducible repeat (first | refine bN ?_ _ | refine bD ?_ | refine bA ?_ _)); exact BK228.out)) : gb228 ≠ gb238))
       have n10_ := am ((by rw [hg]; exact Nat.ne_of_gt (blk_lt (g := gb228) (o := .cells #[.int .i64 x229000_1, .int .i64 x229001_1] 26 (0, 0)) (by (with_reducible repeat (first | refine bN ?_ _ | refine bD ?_ | refine bA ?_ _)); exact BK228.out)) : gb238 ≠ gb228))
       have n11_ := am ((by rw [hg]; exact Nat.ne_of_lt (blk_lt (g := gb229) (o := .cells #[.int .i64 x230000_1, .int .i64 x230001_1] 26 (0, 0)) (by (with_reducible repeat (first | refine bN ?_ _ | refine bD ?_ | refine bA ?_ _)); exact BK229.out)) : gb229 ≠ gb238))
       have n12_ := am ((by rw [hg]; exact Nat.ne_of_gt (blk_lt (g := gb229) (o := .cells #[.int .i64 x230000_1, .int .i64 x230001_1] 26 (0, 0)) (by (with_reducible repeat (first | refine bN ?_ _ | refine bD ?_ | refine bA ?_ _)); exact BK229.out)) : gb238 ≠ gb229))
       clear BK227
       clear BK228
       clear BK229
       clear HB
       have BK227 := n0_
       have BK228 := n1_
       have BK229 := n2_
       have HB := n3_
       have BK238 := n4_
       have GW238 := n5_
       have GE238 := n6_
       have NB227_238 := n7_
       have NB238_227 := n8_
       have NB228_238 := n9_
       have NB238_228 := n10_
       have NB229_238 := n11_
       have NB238_229 := n12_
       clear n0_ n1_ n2_ n3_ n4_ n5_ n6_ n7_ n8_ n9_ n10_ n11_ n12_
       clear hb hbox hg
       refine hK.out _ _ ⟨((HB.out.cell (World.block_lt_of_cell? w _ hw236_0)).trans hw236_0), ((HB.out.cell (World.block_lt_of_cell? w _ hw237_0)).trans hw237_0)⟩ (fun hHeld => ?_)
       clear hK K
       refine norm_ (a' := ?_) ?_ ?_
       rotate_left
       ·show Act.put _ (some 13) _ = _
        simp only [Act.put, zT, z0, zS, i64_w, i32_w]
        rfl
       refine one_ (i := 13) (N := none) #[true, true, true, true, true, true, true, true, true, true, true, true, true, true] rfl rfl (one_of HT_.out (by kernel_rfl)) (by decide) (fun K hK => ?_)
       have hs80 : w79.cell? ⟨gb238, 0, none⟩ = some (.int .i64 0) := (blk_cell BK238.out 0).trans rfl
       have hfs80 := blk_frozen BK238.out 0
       have hns80_0 := NB227_238.out
       have hns80_1 := NB228_238.out
       have hns80_2 := NB229_238.out
       have hms80_0 := NB238_227.out
       have hms80_1 := NB238_228.out
       have hms80_2 := NB238_229.out
       have hs81 : w79.cell? ⟨gb238, 1, none⟩ = some (.int .i64 0) := (blk_cell BK238.out 1).trans rfl
       have hfs81 := blk_frozen BK238.out 1
       have hns81_0 := NB227_238.out
       have hns81_1 := NB228_238.out
       have hns81_2 := NB229_238.out
       have hms81_0 := NB238_227.out
       have hms81_1 := NB238_228.out
       have hms81_2 := NB238_229.out
       refine skip_ (w1 := ?_) (by rfl) rfl ?_ ?_
       rotate_left
       ·go_simp
        rfl
       refine hK.out _ _ ⟨((cell_far (p := ⟨gb238, _, none⟩) (by first | exact Nat.ne_of_lt (Nat.lt_of_lt_of_le (by have := World.block_lt_of_cell? _ _ hw236_0; first | rwa [add_block] at this | exact this) GW238.out) | (rw [add_block]; exact Nat.ne_of_lt (Nat.lt_of_lt_of_le (by have := World.block_lt_of_cell? _ _ hw236_0; first | rwa [add_block] at this | exact this) GW238.out)) | (show (Addr.add _ _).block ≠ _; rw [add_block]; exact Nat.ne_of_lt (Nat.lt_of_lt_of_le (by have := World.block_lt_of_cell? _ _ hw236_0; first | rwa [add_block] at this | exact this) GW238.out)) | (dsimp only; exact Nat.ne_of_lt (Nat.lt_of_lt_of_le (by have := World.block_lt_of_cell? _ _ hw236_0; first | rwa [add_block] at this | exact this) GW238.out))) _).trans (((cell_far (p := ⟨gb238, _, none⟩) (by first | exact Nat.ne_of_lt (Nat.lt_of_lt_of_le (by have := World.block_lt_of_cell? _ _ hw236_0; first | rwa [add_block] at this | exact this) GW238.out) | (rw [add_block]; exact Nat.ne_of_lt (Nat.lt_of_lt_of_le (by have := World.block_lt_of_cell? _ _ hw236_0; first | rwa [add_block] at this | exact this) GW238.out)) | (show (Addr.add _ _).block ≠ _; rw [add_block]; exact Nat.ne_of_lt (Nat.lt_of_lt_of_le (by have := World.block_lt_of_cell? _ _ hw236_0; first | rwa [add_block] at this | exact this) GW238.out)) | (dsimp only; exact Nat.ne_of_lt (Nat.lt_of_lt_of_le (by have := World.block_lt_of_cell? _ _ hw236_0; first | rwa [add_block] at this | exact this) GW238.out))) _).trans (hHeld.1)))), ((cell_far (p := ⟨gb238, _, none⟩) (by first | exact Nat.ne_of_lt (Nat.lt_of_lt_of_le (by have := World.block_lt_of_cell? _ _ hw237_0; first | rwa [add_block] at this | exact this) GW238.out) | (rw [add_block]; exact Nat.ne_of_lt (Nat.lt_of_lt_of_le (by have := World.block_lt_of_cell? _ _ hw237_0; first | rwa [add_block] at this | exact this) GW238.out)) | (show (Addr.add _ _).block ≠ _; rw [add_block]; exact Nat.ne_of_lt (Nat.lt_of_lt_of_le (by have := World.block_lt_of_cell? _ _ hw237_0; first | rwa [add_block] at this | exact this) GW238.out)) | (dsimp only; exact Nat.ne_of_lt (Nat.lt_of_lt_of_le (by have := World.block_lt_of_cell? _ _ hw237_0; first | rwa [add_block] at this | exact this) GW238.out))) _).trans (((cell_far (p := ⟨gb238, _, none⟩) (by first | exact Nat.ne_of_lt (Nat.lt_of_lt_of_le (by have := World.block_lt_of_cell? _ _ hw237_0; first | rwa [add_block] at this | exact this) GW238.out) | (rw [add_block]; exact Nat.ne_of_lt (Nat.lt_of_lt_of_le (by have := World.block_lt_of_cell? _ _ hw237_0; first | rwa [add_block] at this | exact this) GW238.out)) | (show (Addr.add _ _).block ≠ _; rw [add_block]; exact Nat.ne_of_lt (Nat.lt_of_lt_of_le (by have := World.block_lt_of_cell? _ _ hw237_0; first | rwa [add_block] at this | exact this) GW238.out)) | (dsimp only; exact Nat.ne_of_lt (Nat.lt_of_lt_of_le (by have := World.block_lt_of_cell? _ _ hw237_0; first | rwa [add_block] at this | exact this) GW238.out))) _).trans (hHeld.2))))⟩ (fun hHeld => ?_)
       clear hK K
       refine done_ (done_of HT_.out (by kernel_rfl)) ?_
       have hnb82 := NB229_227.out
       have hnc82 := NB227_229.out
       have hnb83 := NB229_228.out
       have hnc83 := NB228_229.out
       have hnb84 := NB229_238.out
       have hnc84 := NB238_229.out
       have hcz85_0 : w79.cell? ⟨gb229, 0, none⟩ = some (.int .i64 x230000_1) := (blk_cell BK229.out 0).trans rfl
       have hcz85_1 : w79.cell? ⟨gb229, 1, none⟩ = some (.int .i64 x230001_1) := (blk_cell BK229.out 1).trans rfl
       have hfz85_0 := blk_frozen BK229.out 0
       have hfz85_1 := blk_frozen BK229.out 1
       have hnb86 := NB238_227.out
       have hnc86 := NB227_238.out
       have hnb87 := NB238_228.out
       have hnc87 := NB228_238.out
       have hcz88_0 : w79.cell? ⟨gb238, 0, none⟩ = some (.int .i64 0) := (blk_cell BK238.out 0).trans rfl
       have hcz88_1 : w79.cell? ⟨gb238, 1, none⟩ = some (.int .i64 0) := (blk_cell BK238.out 1).trans rfl
       have hfz88_0 := blk_frozen BK238.out 0
       have hfz88_1 := blk_frozen BK238.out 1
       try go_wp2_with (first | ((with_reducible refine gate_dst (N := 50) rfl ?_); refine Kd.R_lit k26 _ 26 ?hg (N := 50) ?hd (xs := ([(⟨x230000_1, x230001_1⟩ : S26), (⟨wrap64 (rd l2 x12_1), wrap64 (Int.tdiv (wrap64 (rd l2 x12_1)) 3)⟩ : S26)] : List (S26))) (inner := [.int .i64 x230000_1, .int .i64 x230001_1, .int .i64 (wrap64 (rd l2 x12_1)), .int .i64 (wrap64 (Int.tdiv (wrap64 (rd l2 x12_1)) 3))]) (ok := fun _ => True) (okp := fun _ => True) ?hr ?hp (fun _ hk => hk) trivial (Below.refl _ _) (Nat.le_refl _) (by simp) ?_; (case hd => rfl); (case hg => rfl); (case hr => first | (go_simp; done) | (go_simp; rfl)); (case hp => exact (Reps.c2 (show Kd.M k26 _ _ _ (⟨x230000_1, x230001_1⟩ : S26) [.int .i64 x230000_1, .int .i64 x230001_1] from (k26_mkM _ _ _ (⟨x230000_1, x230001_1⟩ : S26) )) (Reps.c2 (show Kd.M k26 _ _ _ (⟨wrap64 (rd l2 x12_1), wrap64 (Int.tdiv (wrap64 (rd l2 x12_1)) 3)⟩ : S26) [.int .i64 (wrap64 (rd l2 x12_1)), .int .i64 (wrap64 (Int.tdiv (wrap64 (rd l2 x12_1)) 3))] from (k26_mkM _ _ _ (⟨wrap64 (rd l2 x12_1), wrap64 (Int.tdiv (wrap64 (rd l2 x12_1)) 3)⟩ : S26) )) (Reps.none _ _)))); intro v240 w89 ho90 hb hg_ hnew_; clear hg_ hnew_; (first | rw [← Ny239.out] at ho90 | (simp only [Int.reduceToNat] at ho90; rw [← Ny239.out] at ho90)); have n0_ := am (Kd.R_lower (Kd.R_newB (Kd.R_newB (Kd.R_newB (Kd.R_newB ho90 (g := gb227) (o := .cells #[.int .i64 t225, .int .i64 t226] 26 (0, 0)) (by (with_reducible repeat (first | refine bN ?_ _ | refine bD ?_ | refine bA ?_ _)); refine blk_far ?_ NB227_238.out _; (with_reducible repeat (first | refine bN ?_ _ | refine bD ?_ | refine bA ?_ _)); refine blk_far ?_ NB227_238.out _; (with_reducible repeat (first | refine bN ?_ _ | refine bD ?_ | refine bA ?_ _)); exact BK227.out)) (g := gb228) (o := .cells #[.int .i64 x229000_1, .int .i64 x229001_1] 26 (0, 0)) (by (with_reducible repeat (first | refine bN ?_ _ | refine bD ?_ | refine bA ?_ _)); refine blk_far ?_ NB228_238.out _; (with_reducible repeat (first | refine bN ?_ _ | refine bD ?_ | refine bA ?_ _)); refine blk_far ?_ NB228_238.out _; (with_reducible repeat (first | refine bN ?_ _ | refine bD ?_ | refine bA ?_ _)); exact BK228.out)) (g := gb229) (o := .cells #[.int .i64 x230000_1, .int .i64 x230001_1] 26 (0, 0)) (by (with_reducible repeat (first | refine bN ?_ _ | refine bD ?_ | refine bA ?_ _)); refine blk_far ?_ NB229_238.out _; (with_reducible repeat (first | refine bN ?_ _ | refine bD ?_ | refine bA ?_ _)); refine blk_far ?_ NB229_238.out _; (with_reducible repeat (first | refine bN ?_ _ | refine bD ?_ | refine bA ?_ _)); exact BK229.out)) (g := gb238) (o := .cells #[.int .i64 (wrap64 (rd l2 x12_1)), .int .i64 (wrap64 (Int.tdiv (wrap64 (rd l2 x12_1)) 3))] 26 (0, 0)) (by (with_reducible repeat (first | refine bN ?_ _ | refine bD ?_ | refine bA ?_ _)); refine blk_put (cs := #[.int .i64 (wrap64 (rd l2 x12_1)), .int .i64 0]) ?_ 1 _ rfl; (with_reducible repeat (first | refine bN ?_ _ | refine bD ?_ | refine bA ?_ _)); refine blk_put (cs := #[.int .i64 0, .int .i64 0]) ?_ 0 _ rfl; (with_reducible repeat (first | refine bN ?_ _ | refine bD ?_ | refine bA ?_ _)); exact BK238.out)) (below_size (by repeat (first | (with_reducible first | exact HB.out | apply lA | apply lN | apply lD | refine below_set ?_ GE227.out | refine below_set ?_ GE228.out | refine below_set ?_ GE229.out | refine below_set ?_ GE238.out) | exact HB.out)))); have n1_ := am (bB (g := gb227) (o := .cells #[.int .i64 t225, .int .i64 t226] 26 (0, 0)) (by (with_reducible repeat (first | refine bN ?_ _ | refine bD ?_ | refine bA ?_ _)); refine blk_far ?_ NB227_238.out _; (with_reducible repeat (first | refine bN ?_ _ | refine bD ?_ | refine bA ?_ _)); refine blk_far ?_ NB227_238.out _; (with_reducible repeat (first | refine bN ?_ _ | refine bD ?_ | refine bA ?_ _)); exact BK227.out) hb); have n2_ := am (bB (g := gb228) (o := .cells #[.int .i64 x229000_1, .int .i64 x229001_1] 26 (0, 0)) (by (with_reducible repeat (first | refine bN ?_ _ | refine bD ?_ | refine bA ?_ _)); refine blk_far ?_ NB228_238.out _; (with_reducible repeat (first | refine bN ?_ _ | refine bD ?_ | refine bA ?_ _)); refine blk_far ?_ NB228_238.out _; (with_reducible repeat (first | refine bN ?_ _ | refine bD ?_ | refine bA ?_ _)); exact BK228.out) hb); have n3_ := am (bB (g := gb229) (o := .cells #[.int .i64 x230000_1, .int .i64 x230001_1] 26 (0, 0)) (by (with_reducible repeat (first | refine bN ?_ _ | refine bD ?_ | refine bA ?_ _)); refine blk_far ?_ NB229_238.out _; (with_reducible repeat (first | refine bN ?_ _ | refine bD ?_ | refine bA ?_ _)); refine blk_far ?_ NB229_238.out _; (with_reducible repeat (first | refine bN ?_ _ | refine bD ?_ | refine bA ?_ _)); exact BK229.out) hb); have n4_ := am (bB (g := gb238) (o := .cells #[.int .i64 (wrap64 (rd l2 x12_1)), .int .i64 (wrap64 (Int.tdiv (wrap64 (rd l2 x12_1)) 3))] 26 (0, 0)) (by (with_reducible repeat (first | refine bN ?_ _ | refine bD ?_ | refine bA ?_ _)); refine blk_put (cs := #[.int .i64 (wrap64 (rd l2 x12_1)), .int .i64 0]) ?_ 1 _ rfl; (with_reducible repeat (first | refine bN ?_ _ | refine bD ?_ | refine bA ?_ _)); refine blk_put (cs := #[.int .i64 0, .int .i64 0]) ?_ 0 _ rfl; (with_reducible repeat (first | refine bN ?_ _ | refine bD ?_ | refine bA ?_ _)); exact BK238.out) hb); have n5_ := am (below_step (by repeat (first | (with_reducible first | exact HB.out | apply lA | apply lN | apply lD | refine below_set ?_ GE227.out | refine below_set ?_ GE228.out | refine below_set ?_ GE229.out | refine below_set ?_ GE238.out) | exact HB.out)) hb); clear BK227; clear BK228; clear BK229; clear BK238; clear HB; have HO241 := n0_; have BK227 := n1_; have BK228 := n2_; have BK229 := n3_; have BK238 := n4_; have HB := n5_; clear n0_ n1_ n2_ n3_ n4_ n5_; clear hb ho90; obtain ⟨Ao91, co91, eo91⟩ := Kd.R_slice HO241.out; subst eo91) | ((with_reducible refine gate_callee (f := 23) rfl ?_); refine goesL_ (some 51) rfl rfl Try.func23 (by kernel_rfl) rfl #[.slice Ao91 y239.length co91] rfl (by (try simp only [List.map_toArray, List.map_cons, List.map_nil]); first | done | rfl | (simp only [List.length_drop, List.length_take]; rfl)) ?_; (with_reducible refine (budget_Sum.calls _ _ y239 t242 t243 _ ?side1 ?side2 A21.out).mono ?_); (case side1 => repeat (first | exact (Kd.R_reads' HO241.out).2.2 | (with_reducible refine Kd.C_alloc ?_ _) | (with_reducible refine Kd.C_drewN ?_ _) | (with_reducible refine Kd.C_drew ?_))); (case side2 => exact (Kd.R_reads' HO241.out).2.1); rintro e w92 ⟨rfl, hb⟩; refine ⟨_, rfl, ?_⟩; have n0_ := am (Kd.R_below (by (with_reducible repeat (first | apply Kd.R_alloc | apply Kd.R_drewN | apply Kd.R_drew)); exact HO241.out) hb); have n1_ := am (bB (g := gb227) (o := .cells #[.int .i64 t225, .int .i64 t226] 26 (0, 0)) (by (with_reducible repeat (first | refine bN ?_ _ | refine bD ?_ | refine bA ?_ _)); exact BK227.out) hb); have n2_ := am (bB (g := gb228) (o := .cells #[.int .i64 x229000_1, .int .i64 x229001_1] 26 (0, 0)) (by (with_reducible repeat (first | refine bN ?_ _ | refine bD ?_ | refine bA ?_ _)); exact BK228.out) hb); have n3_ := am (bB (g := gb229) (o := .cells #[.int .i64 x230000_1, .int .i64 x230001_1] 26 (0, 0)) (by (with_reducible repeat (first | refine bN ?_ _ | refine bD ?_ | refine bA ?_ _)); exact BK229.out) hb); have n4_ := am (bB (g := gb238) (o := .cells #[.int .i64 (wrap64 (rd l2 x12_1)), .int .i64 (wrap64 (Int.tdiv (wrap64 (rd l2 x12_1)) 3))] 26 (0, 0)) (by (with_reducible repeat (first | refine bN ?_ _ | refine bD ?_ | refine bA ?_ _)); exact BK238.out) hb); have n5_ := am (below_step (by repeat (first | (with_reducible first | exact HB.out | apply lA | apply lN | apply lD | refine below_set ?_ GE227.out | refine below_set ?_ GE228.out | refine below_set ?_ GE229.out | refine below_set ?_ GE238.out) | exact HB.out)) hb); clear HO241; clear BK227; clear BK228; clear BK229; clear BK238; clear HB; have HO241 := n0_; have BK227 := n1_; have BK228 := n2_; have BK229 := n3_; have BK238 := n4_; have HB := n5_; clear n0_ n1_ n2_ n3_ n4_ n5_; (try clear hb); (try clear hb2); (try clear hk); (try clear hi); have hcz93_0 : w92.cell? ⟨gb229, 0, none⟩ = some (.int .i64 x230000_1) := (blk_cell BK229.out 0).trans rfl; have hcz93_1 : w92.cell? ⟨gb229, 1, none⟩ = some (.int .i64 x230001_1) := (blk_cell BK229.out 1).trans rfl; have hfz93_0 := blk_frozen BK229.out 0; have hfz93_1 := blk_frozen BK229.out 1))
       go_roundg k1
       case measure => have := HK1.out; omega
       case rel => exact ⟨(false), (wrap64 (x12_1 + 1)), (x229000_1), (x229001_1), (t242), (t243), (by first | rfl | (simp; done) | (simp [*]; done)), (by first | rfl | (simp; done) | (simp [*]; done)), H', ⟨by have := HK1.out; omega⟩, ⟨by (with_reducible repeat (first | refine bN ?_ _ | refine bD ?_ | refine bA ?_ _)); refine blk_far ?_ NB227_229.out _; (with_reducible repeat (first | refine bN ?_ _ | refine bD ?_ | refine bA ?_ _)); refine blk_far ?_ NB227_229.out _; (with_reducible repeat (first | refine bN ?_ _ | refine bD ?_ | refine bA ?_ _)); exact BK227.out⟩, ⟨by (with_reducible repeat (first | refine bN ?_ _ | refine bD ?_ | refine bA ?_ _)); refine blk_far ?_ NB228_229.out _; (with_reducible repeat (first | refine bN ?_ _ | refine bD ?_ | refine bA ?_ _)); refine blk_far ?_ NB228_229.out _; (with_reducible repeat (first | refine bN ?_ _ | refine bD ?_ | refine bA ?_ _)); exact BK228.out⟩, ⟨by (with_reducible repeat (first | refine bN ?_ _ | refine bD ?_ | refine bA ?_ _)); refine blk_put (cs := #[.int .i64 t242, .int .i64 x230001_1]) ?_ 1 _ rfl; (with_reducible repeat (first | refine bN ?_ _ | refine bD ?_ | refine bA ?_ _)); refine blk_put (cs := #[.int .i64 x230000_1, .int .i64 x230001_1]) ?_ 0 _ rfl; (with_reducible repeat (first | refine bN ?_ _ | refine bD ?_ | refine bA ?_ _)); exact BK229.out⟩, ⟨by repeat (first | (with_reducible first | exact HB.out | apply lA | apply lN | apply lD | refine below_set ?_ GE227.out | refine below_set ?_ GE228.out | refine below_set ?_ GE229.out | refine below_set ?_ GE238.out) | exact HB.out)⟩⟩
     ·rw [if_neg c20] at H
      exact absurd H (by simp)
    ·rw [if_neg c19] at H
     have c19b0 : decide (x12_1 < (l2.length : Int)) = false := decide_eq_false c19
     clear c19
     replace H := Option.bind_eq_some_iff.mp H
     obtain ⟨⟨t230, t231, t232⟩, A940, H⟩ := H
     replace H : (if t224 = true then (if ((t232 == 0) == x11_1) = true then (if x11_1 = true then (if (t230 == x229000_1 && (t231 == x229001_1)) = true then ((budget_Budget_Can.f t225 t226 x230000_1 x230001_1).bind fun t234 => (some (t234 == x11_1))) else (none)) else ((budget_Budget_Can.f t225 t226 x230000_1 x230001_1).bind fun t235 => (some (t235 == x11_1)))) else (none)) else (none)) = some r := H
     have A94 := am A940
     clear A940
     by_cases c95 : t224 = true
     ·subst c95
      have H1 : (if ((t232 == 0) == x11_1) = true then (if x11_1 = true then (if (t230 == x229000_1 && (t231 == x229001_1)) = true then ((budget_Budget_Can.f t225 t226 x230000_1 x230001_1).bind fun t234 => (some (t234 == x11_1))) else (none)) else ((budget_Budget_Can.f t225 t226 x230000_1 x230001_1).bind fun t235 => (some (t235 == x11_1)))) else (none)) = some r := by rw [if_pos rfl] at H; exact H
      clear H
      have H := H1
      clear H1
      by_cases c96 : ((t232 == 0) == x11_1) = true
      ·rw [if_pos c96] at H
       have c96b0 : ((t232 == 0) == x11_1) = true := c96
       (try (have c96b1 : decide ((t232 == 0) = x11_1) = true := by simpa using c96))
       (try (have c96b2 : ((t232 == 0) == x11_1) = true := by simpa using c96))
       clear c96
       by_cases c97 : x11_1 = true
       ·subst c97
        have H1 : (if (t230 == x229000_1 && (t231 == x229001_1)) = true then ((budget_Budget_Can.f t225 t226 x230000_1 x230001_1).bind fun t234 => (some (t234 == true))) else (none)) = some r := by rw [if_pos rfl] at H; exact H
        clear H
        have H := H1
        clear H1
        by_cases c98 : (t230 == x229000_1 && (t231 == x229001_1)) = true
        ·rw [if_pos c98] at H
         have c98b0 : (t230 == x229000_1 && (t231 == x229001_1)) = true := c98
         (try (have c98b1 : decide (t230 = x229000_1 && (t231 == x229001_1)) = true := by simpa using c98))
         (try (have c98b2 : (t230 == x229000_1 && (t231 == x229001_1)) = true := by simpa using c98))
         clear c98
         replace H := Option.bind_eq_some_iff.mp H
         obtain ⟨t234, A990, H⟩ := H
         replace H : (some (t234 == true)) = some r := H
         have A99 := am A990
         clear A990
         obtain rfl := Option.some.inj H
         have hnb100 := NB227_228.out
         have hnc100 := NB228_227.out
         have hnb101 := NB227_229.out
         have hnc101 := NB229_227.out
         have hcz102_0 : wr.cell? ⟨gb227, 0, none⟩ = some (.int .i64 t225) := (blk_cell BK227.out 0).trans rfl
         have hcz102_1 : wr.cell? ⟨gb227, 1, none⟩ = some (.int .i64 t226) := (blk_cell BK227.out 1).trans rfl
         have hfz102_0 := blk_frozen BK227.out 0
         have hfz102_1 := blk_frozen BK227.out 1
         have hnb103 := NB229_228.out
         have hnc103 := NB228_229.out
         have hcz104_0 : wr.cell? ⟨gb229, 0, none⟩ = some (.int .i64 x230000_1) := (blk_cell BK229.out 0).trans rfl
         have hcz104_1 : wr.cell? ⟨gb229, 1, none⟩ = some (.int .i64 x230001_1) := (blk_cell BK229.out 1).trans rfl
         have hfz104_0 := blk_frozen BK229.out 0
         have hfz104_1 := blk_frozen BK229.out 1
         go_wp2_with (first | ((with_reducible refine gate_callee (f := 14) rfl ?_); refine goesL_ (some 66) rfl rfl Try.func14 (by kernel_rfl) rfl #[.agg #[.int .i64 t225, .int .i64 t226], .agg #[.int .i64 x230000_1, .int .i64 x230001_1]] rfl (by (try simp only [List.map_toArray, List.map_cons, List.map_nil]); first | done | rfl | (simp only [List.length_drop, List.length_take]; rfl)) ?_; (with_reducible refine (budget_Budget_Pay.calls t225 t226 x230000_1 x230001_1 t230 t231 t232 _ A94.out).mono ?_); rintro e w105 ⟨rfl, hb⟩; refine ⟨_, rfl, ?_⟩; have n0_ := am (bB (g := gb227) (o := .cells #[.int .i64 t225, .int .i64 t226] 26 (0, 0)) (by (with_reducible repeat (first | refine bN ?_ _ | refine bD ?_ | refine bA ?_ _)); exact BK227.out) hb); have n1_ := am (bB (g := gb228) (o := .cells #[.int .i64 x229000_1, .int .i64 x229001_1] 26 (0, 0)) (by (with_reducible repeat (first | refine bN ?_ _ | refine bD ?_ | refine bA ?_ _)); exact BK228.out) hb); have n2_ := am (bB (g := gb229) (o := .cells #[.int .i64 x230000_1, .int .i64 x230001_1] 26 (0, 0)) (by (with_reducible repeat (first | refine bN ?_ _ | refine bD ?_ | refine bA ?_ _)); exact BK229.out) hb); have n3_ := am (below_step (by repeat (first | (with_reducible first | exact HB.out | apply lA | apply lN | apply lD | refine below_set ?_ GE227.out | refine below_set ?_ GE228.out | refine below_set ?_ GE229.out) | exact HB.out)) hb); clear BK227; clear BK228; clear BK229; clear HB; have BK227 := n0_; have BK228 := n1_; have BK229 := n2_; have HB := n3_; clear n0_ n1_ n2_ n3_; (try clear hb); (try clear hb2); (try clear hk); (try clear hi)) | ((with_reducible refine gate_dst (N := 16) rfl ?_); refine box_event ?hg (N := 16) ?hd (cs := #[.int .i64 0, .int .i64 0]) (t := 26) ?hr ?_; (case hd => rfl); (case hg => rfl); (case hr => first | (go_simp; done) | (go_simp; rfl)); intro gb233 hg w106 hbox hb; have n0_ := am (bB (g := gb227) (o := .cells #[.int .i64 t225, .int .i64 t226] 26 (0, 0)) (by (with_reducible repeat (first | refine bN ?_ _ | refine bD ?_ | refine bA ?_ _)); exact BK227.out) hb); have n1_ := am (bB (g := gb228) (o := .cells #[.int .i64 x229000_1, .int .i64 x229001_1] 26 (0, 0)) (by (with_reducible repeat (first | refine bN ?_ _ | refine bD ?_ | refine bA ?_ _)); exact BK228.out) hb); have n2_ := am (bB (g := gb229) (o := .cells #[.int .i64 x230000_1, .int .i64 x230001_1] 26 (0, 0)) (by (with_reducible repeat (first | refine bN ?_ _ | refine bD ?_ | refine bA ?_ _)); exact BK229.out) hb); have n3_ := am (below_step (by repeat (first | (with_reducible first | exact HB.out | apply lA | apply lN | apply lD | refine below_set ?_ GE227.out | refine below_set ?_ GE228.out | refine below_set ?_ GE229.out) | exact HB.out)) hb); have n4_ := am (hbox); have n5_ := am ((by rw [hg]; exact (below_size (by repeat (first | (with_reducible first | exact HB.out | apply lA | apply lN | apply lD | refine below_set ?_ GE227.out | refine below_set ?_ GE228.out | refine below_set ?_ GE229.out) | exact HB.out))) : w.heap.size ≤ gb233)); have n6_ := n5_; have n7_ := am ((by rw [hg]; exact Nat.ne_of_lt (blk_lt (g := gb227) (o := .cells #[.int .i64 t225, .int .i64 t226] 26 (0, 0)) (by (with_reducible repeat (first | refine bN ?_ _ | refine bD ?_ | refine bA ?_ _)); exact BK227.out)) : gb227 ≠ gb233)); have n8_ := am ((by rw [hg]; exact Nat.ne_of_gt (blk_lt (g := gb227) (o := .cells #[.int .i64 t225, .int .i64 t226] 26 (0, 0)) (by (with_reducible repeat (first | refine bN ?_ _ | refine bD ?_ | refine bA ?_ _)); exact BK227.out)) : gb233 ≠ gb227)); have n9_ := am ((by rw [hg]; exact Nat.ne_of_lt (blk_lt (g := gb228) (o := .cells #[.int .i64 x229000_1, .int .i64 x229001_1] 26 (0, 0)) (by (with_reducible repeat (first | refine bN ?_ _ | refine bD ?_ | refine bA ?_ _)); exact BK228.out)) : gb228 ≠ gb233)); have n10_ := am ((by rw [hg]; exact Nat.ne_of_gt (blk_lt (g := gb228) (o := .cells #[.int .i64 x229000_1, .int .i64 x229001_1] 26 (0, 0)) (by (with_reducible repeat (first | refine bN ?_ _ | refine bD ?_ | refine bA ?_ _)); exact BK228.out)) : gb233 ≠ gb228)); have n11_ := am ((by rw [hg]; exact Nat.ne_of_lt (blk_lt (g := gb229) (o := .cells #[.int .i64 x230000_1, .int .i64 x230001_1] 26 (0, 0)) (by (with_reducible repeat (first | refine bN ?_ _ | refine bD ?_ | refine bA ?_ _)); exact BK229.out)) : gb229 ≠ gb233)); have n12_ := am ((by rw [hg]; exact Nat.ne_of_gt (blk_lt (g := gb229) (o := .cells #[.int .i64 x230000_1, .int .i64 x230001_1] 26 (0, 0)) (by (with_reducible repeat (first | refine bN ?_ _ | refine bD ?_ | refine bA ?_ _)); exact BK229.out)) : gb233 ≠ gb229)); clear BK227; clear BK228; clear BK229; clear HB; have BK227 := n0_; have BK228 := n1_; have BK229 := n2_; have HB := n3_; have BK233 := n4_; have GW233 := n5_; have GE233 := n6_; have NB227_233 := n7_; have NB233_227 := n8_; have NB228_233 := n9_; have NB233_228 := n10_; have NB229_233 := n11_; have NB233_229 := n12_; clear n0_ n1_ n2_ n3_ n4_ n5_ n6_ n7_ n8_ n9_ n10_ n11_ n12_; clear hb hbox hg; have hnb107 := NB233_227.out; have hnc107 := NB227_233.out; have hnb108 := NB233_228.out; have hnc108 := NB228_233.out; have hnb109 := NB233_229.out; have hnc109 := NB229_233.out; have hcz110_0 : w106.cell? ⟨gb233, 0, none⟩ = some (.int .i64 0) := (blk_cell BK233.out 0).trans rfl; have hcz110_1 : w106.cell? ⟨gb233, 1, none⟩ = some (.int .i64 0) := (blk_cell BK233.out 1).trans rfl; have hfz110_0 := blk_frozen BK233.out 0; have hfz110_1 := blk_frozen BK233.out 1; have hcz111_0 : w106.cell? ⟨gb228, 0, none⟩ = some (.int .i64 x229000_1) := (blk_cell BK228.out 0).trans rfl; have hcz111_1 : w106.cell? ⟨gb228, 1, none⟩ = some (.int .i64 x229001_1) := (blk_cell BK228.out 1).trans rfl; have hfz111_0 := blk_frozen BK228.out 0; have hfz111_1 := blk_frozen BK228.out 1; have hcz112_0 : w106.cell? ⟨gb227, 0, none⟩ = some (.int .i64 t225) := (blk_cell BK227.out 0).trans rfl; have hcz112_1 : w106.cell? ⟨gb227, 1, none⟩ = some (.int .i64 t226) := (blk_cell BK227.out 1).trans rfl; have hfz112_0 := blk_frozen BK227.out 0; have hfz112_1 := blk_frozen BK227.out 1; have hcz113_0 : w106.cell? ⟨gb229, 0, none⟩ = some (.int .i64 x230000_1) := (blk_cell BK229.out 0).trans rfl; have hcz113_1 : w106.cell? ⟨gb229, 1, none⟩ = some (.int .i64 x230001_1) := (blk_cell BK229.out 1).trans rfl; have hfz113_0 := blk_frozen BK229.out 0; have hfz113_1 := blk_frozen BK229.out 1) | (go_at_call 16; (with_reducible refine (budget_Budget_Can.calls t225 t226 x230000_1 x230001_1 t234 _ A99.out).mono ?_); rintro e w114 ⟨rfl, hb⟩; have n0_ := am (bB (g := gb227) (o := .cells #[.int .i64 t225, .int .i64 t226] 26 (0, 0)) (by (with_reducible repeat (first | refine bN ?_ _ | refine bD ?_ | refine bA ?_ _)); refine blk_far ?_ NB227_233.out _; (with_reducible repeat (first | refine bN ?_ _ | refine bD ?_ | refine bA ?_ _)); refine blk_far ?_ NB227_233.out _; (with_reducible repeat (first | refine bN ?_ _ | refine bD ?_ | refine bA ?_ _)); exact BK227.out) hb); have n1_ := am (bB (g := gb228) (o := .cells #[.int .i64 x229000_1, .int .i64 x229001_1] 26 (0, 0)) (by (with_reducible repeat (first | refine bN ?_ _ | refine bD ?_ | refine bA ?_ _)); refine blk_far ?_ NB228_233.out _; (with_reducible repeat (first | refine bN ?_ _ | refine bD ?_ | refine bA ?_ _)); refine blk_far ?_ NB228_233.out _; (with_reducible repeat (first | refine bN ?_ _ | refine bD ?_ | refine bA ?_ _)); exact BK228.out) hb); have n2_ := am (bB (g := gb229) (o := .cells #[.int .i64 x230000_1, .int .i64 x230001_1] 26 (0, 0)) (by (with_reducible repeat (first | refine bN ?_ _ | refine bD ?_ | refine bA ?_ _)); refine blk_far ?_ NB229_233.out _; (with_reducible repeat (first | refine bN ?_ _ | refine bD ?_ | refine bA ?_ _)); refine blk_far ?_ NB229_233.out _; (with_reducible repeat (first | refine bN ?_ _ | refine bD ?_ | refine bA ?_ _)); exact BK229.out) hb); have n3_ := am (bB (g := gb233) (o := .cells #[.int .i64 t230, .int .i64 t231] 26 (0, 0)) (by (with_reducible repeat (first | refine bN ?_ _ | refine bD ?_ | refine bA ?_ _)); refine blk_put (cs := #[.int .i64 t230, .int .i64 0]) ?_ 1 _ rfl; (with_reducible repeat (first | refine bN ?_ _ | refine bD ?_ | refine bA ?_ _)); refine blk_put (cs := #[.int .i64 0, .int .i64 0]) ?_ 0 _ rfl; (with_reducible repeat (first | refine bN ?_ _ | refine bD ?_ | refine bA ?_ _)); exact BK233.out) hb); have n4_ := am (below_step (by repeat (first | (with_reducible first | exact HB.out | apply lA | apply lN | apply lD | refine below_set ?_ GE227.out | refine below_set ?_ GE228.out | refine below_set ?_ GE229.out | refine below_set ?_ GE233.out) | exact HB.out)) hb); clear BK227; clear BK228; clear BK229; clear BK233; clear HB; have BK227 := n0_; have BK228 := n1_; have BK229 := n2_; have BK233 := n3_; have HB := n4_; clear n0_ n1_ n2_ n3_ n4_; (try clear hb); (try clear hb2); (try clear hk); (try clear hi)))
         go_ret
         exact ⟨by first | rfl | (simp [errW_none, errW_some] <;> rfl) | (simp [*, errW_none, errW_some] <;> rfl), by repeat (first | (with_reducible first | exact HB.out | apply lA | apply lN | apply lD | refine below_set ?_ GE227.out | refine below_set ?_ GE228.out | refine below_set ?_ GE229.out | refine below_set ?_ GE233.out) | exact HB.out)⟩
        ·rw [if_neg c98] at H
         exact absurd H (by simp)
       ·replace c97 := Bool.eq_false_iff.mpr c97
        subst c97
        have H1 : ((budget_Budget_Can.f t225 t226 x230000_1 x230001_1).bind fun t235 => (some (t235 == false))) = some r := by rw [if_neg (show ¬ (false = true) by decide)] at H; exact H
        clear H
        have H := H1
        clear H1
        replace H := Option.bind_eq_some_iff.mp H
        obtain ⟨t235, A1150, H⟩ := H
        replace H : (some (t235 == false)) = some r := H
        have A115 := am A1150
        clear A1150
        obtain rfl := Option.some.inj H
        have hnb116 := NB227_228.out
        have hnc116 := NB228_227.out
        have hnb117 := NB227_229.out
        have hnc117 := NB229_227.out
        have hcz118_0 : wr.cell? ⟨gb227, 0, none⟩ = some (.int .i64 t225) := (blk_cell BK227.out 0).trans rfl
        have hcz118_1 : wr.cell? ⟨gb227, 1, none⟩ = some (.int .i64 t226) := (blk_cell BK227.out 1).trans rfl
        have hfz118_0 := blk_frozen BK227.out 0
        have hfz118_1 := blk_frozen BK227.out 1
        have hnb119 := NB229_228.out
        have hnc119 := NB228_229.out
        have hcz120_0 : wr.cell? ⟨gb229, 0, none⟩ = some (.int .i64 x230000_1) := (blk_cell BK229.out 0).trans rfl
        have hcz120_1 : wr.cell? ⟨gb229, 1, none⟩ = some (.int .i64 x230001_1) := (blk_cell BK229.out 1).trans rfl
        have hfz120_0 := blk_frozen BK229.out 0
        have hfz120_1 := blk_frozen BK229.out 1
        go_wp2_with (first | ((with_reducible refine gate_callee (f := 14) rfl ?_); refine goesL_ (some 66) rfl rfl Try.func14 (by kernel_rfl) rfl #[.agg #[.int .i64 t225, .int .i64 t226], .agg #[.int .i64 x230000_1, .int .i64 x230001_1]] rfl (by (try simp only [List.map_toArray, List.map_cons, List.map_nil]); first | done | rfl | (simp only [List.length_drop, List.length_take]; rfl)) ?_; (with_reducible refine (budget_Budget_Pay.calls t225 t226 x230000_1 x230001_1 t230 t231 t232 _ A94.out).mono ?_); rintro e w121 ⟨rfl, hb⟩; refine ⟨_, rfl, ?_⟩; have n0_ := am (bB (g := gb227) (o := .cells #[.int .i64 t225, .int .i64 t226] 26 (0, 0)) (by (with_reducible repeat (first | refine bN ?_ _ | refine bD ?_ | refine bA ?_ _)); exact BK227.out) hb); have n1_ := am (bB (g := gb228) (o := .cells #[.int .i64 x229000_1, .int .i64 x229001_1] 26 (0, 0)) (by (with_reducible repeat (first | refine bN ?_ _ | refine bD ?_ | refine bA ?_ _)); exact BK228.out) hb); have n2_ := am (bB (g := gb229) (o := .cells #[.int .i64 x230000_1, .int .i64 x230001_1] 26 (0, 0)) (by (with_reducible repeat (first | refine bN ?_ _ | refine bD ?_ | refine bA ?_ _)); exact BK229.out) hb); have n3_ := am (below_step (by repeat (first | (with_reducible first | exact HB.out | apply lA | apply lN | apply lD | refine below_set ?_ GE227.out | refine below_set ?_ GE228.out | refine below_set ?_ GE229.out) | exact HB.out)) hb); clear BK227; clear BK228; clear BK229; clear HB; have BK227 := n0_; have BK228 := n1_; have BK229 := n2_; have HB := n3_; clear n0_ n1_ n2_ n3_; (try clear hb); (try clear hb2); (try clear hk); (try clear hi)) | ((with_reducible refine gate_dst (N := 16) rfl ?_); refine box_event ?hg (N := 16) ?hd (cs := #[.int .i64 0, .int .i64 0]) (t := 26) ?hr ?_; (case hd => rfl); (case hg => rfl); (case hr => first | (go_simp; done) | (go_simp; rfl)); intro gb233 hg w122 hbox hb; have n0_ := am (bB (g := gb227) (o := .cells #[.int .i64 t225, .int .i64 t226] 26 (0, 0)) (by (with_reducible repeat (first | refine bN ?_ _ | refine bD ?_ | refine bA ?_ _)); exact BK227.out) hb); have n1_ := am (bB (g := gb228) (o := .cells #[.int .i64 x229000_1, .int .i64 x229001_1] 26 (0, 0)) (by (with_reducible repeat (first | refine bN ?_ _ | refine bD ?_ | refine bA ?_ _)); exact BK228.out) hb); have n2_ := am (bB (g := gb229) (o := .cells #[.int .i64 x230000_1, .int .i64 x230001_1] 26 (0, 0)) (by (with_reducible repeat (first | refine bN ?_ _ | refine bD ?_ | refine bA ?_ _)); exact BK229.out) hb); have n3_ := am (below_step (by repeat (first | (with_reducible first | exact HB.out | apply lA | apply lN | apply lD | refine below_set ?_ GE227.out | refine below_set ?_ GE228.out | refine below_set ?_ GE229.out) | exact HB.out)) hb); have n4_ := am (hbox); have n5_ := am ((by rw [hg]; exact (below_size (by repeat (first | (with_reducible first | exact HB.out | apply lA | apply lN | apply lD | refine below_set ?_ GE227.out | refine below_set ?_ GE228.out | refine below_set ?_ GE229.out) | exact HB.out))) : w.heap.size ≤ gb233)); have n6_ := n5_; have n7_ := am ((by rw [hg]; exact Nat.ne_of_lt (blk_lt (g := gb227) (o := .cells #[.int .i64 t225, .int .i64 t226] 26 (0, 0)) (by (with_reducible repeat (first | refine bN ?_ _ | refine bD ?_ | refine bA ?_ _)); exact BK227.out)) : gb227 ≠ gb233)); have n8_ := am ((by rw [hg]; exact Nat.ne_of_gt (blk_lt (g := gb227) (o := .cells #[.int .i64 t225, .int .i64 t226] 26 (0, 0)) (by (with_reducible repeat (first | refine bN ?_ _ | refine bD ?_ | refine bA ?_ _)); exact BK227.out)) : gb233 ≠ gb227)); have n9_ := am ((by rw [hg]; exact Nat.ne_of_lt (blk_lt (g := gb228) (o := .cells #[.int .i64 x229000_1, .int .i64 x229001_1] 26 (0, 0)) (by (with_reducible repeat (first | refine bN ?_ _ | refine bD ?_ | refine bA ?_ _)); exact BK228.out)) : gb228 ≠ gb233)); have n10_ := am ((by rw [hg]; exact Nat.ne_of_gt (blk_lt (g := gb228) (o := .cells #[.int .i64 x229000_1, .int .i64 x229001_1] 26 (0, 0)) (by (with_reducible repeat (first | refine bN ?_ _ | refine bD ?_ | refine bA ?_ _)); exact BK228.out)) : gb233 ≠ gb228)); have n11_ := am ((by rw [hg]; exact Nat.ne_of_lt (blk_lt (g := gb229) (o := .cells #[.int .i64 x230000_1, .int .i64 x230001_1] 26 (0, 0)) (by (with_reducible repeat (first | refine bN ?_ _ | refine bD ?_ | refine bA ?_ _)); exact BK229.out)) : gb229 ≠ gb233)); have n12_ := am ((by rw [hg]; exact Nat.ne_of_gt (blk_lt (g := gb229) (o := .cells #[.int .i64 x230000_1, .int .i64 x230001_1] 26 (0, 0)) (by (with_reducible repeat (first | refine bN ?_ _ | refine bD ?_ | refine bA ?_ _)); exact BK229.out)) : gb233 ≠ gb229)); clear BK227; clear BK228; clear BK229; clear HB; have BK227 := n0_; have BK228 := n1_; have BK229 := n2_; have HB := n3_; have BK233 := n4_; have GW233 := n5_; have GE233 := n6_; have NB227_233 := n7_; have NB233_227 := n8_; have NB228_233 := n9_; have NB233_228 := n10_; have NB229_233 := n11_; have NB233_229 := n12_; clear n0_ n1_ n2_ n3_ n4_ n5_ n6_ n7_ n8_ n9_ n10_ n11_ n12_; clear hb hbox hg; have hnb123 := NB233_227.out; have hnc123 := NB227_233.out; have hnb124 := NB233_228.out; have hnc124 := NB228_233.out; have hnb125 := NB233_229.out; have hnc125 := NB229_233.out; have hcz126_0 : w122.cell? ⟨gb233, 0, none⟩ = some (.int .i64 0) := (blk_cell BK233.out 0).trans rfl; have hcz126_1 : w122.cell? ⟨gb233, 1, none⟩ = some (.int .i64 0) := (blk_cell BK233.out 1).trans rfl; have hfz126_0 := blk_frozen BK233.out 0; have hfz126_1 := blk_frozen BK233.out 1; have hcz127_0 : w122.cell? ⟨gb227, 0, none⟩ = some (.int .i64 t225) := (blk_cell BK227.out 0).trans rfl; have hcz127_1 : w122.cell? ⟨gb227, 1, none⟩ = some (.int .i64 t226) := (blk_cell BK227.out 1).trans rfl; have hfz127_0 := blk_frozen BK227.out 0; have hfz127_1 := blk_frozen BK227.out 1; have hcz128_0 : w122.cell? ⟨gb229, 0, none⟩ = some (.int .i64 x230000_1) := (blk_cell BK229.out 0).trans rfl; have hcz128_1 : w122.cell? ⟨gb229, 1, none⟩ = some (.int .i64 x230001_1) := (blk_cell BK229.out 1).trans rfl; have hfz128_0 := blk_frozen BK229.out 0; have hfz128_1 := blk_frozen BK229.out 1) | (go_at_call 16; (with_reducible refine (budget_Budget_Can.calls t225 t226 x230000_1 x230001_1 t235 _ A115.out).mono ?_); rintro e w129 ⟨rfl, hb⟩; have n0_ := am (bB (g := gb227) (o := .cells #[.int .i64 t225, .int .i64 t226] 26 (0, 0)) (by (with_reducible repeat (first | refine bN ?_ _ | refine bD ?_ | refine bA ?_ _)); refine blk_far ?_ NB227_233.out _; (with_reducible repeat (first | refine bN ?_ _ | refine bD ?_ | refine bA ?_ _)); refine blk_far ?_ NB227_233.out _; (with_reducible repeat (first | refine bN ?_ _ | refine bD ?_ | refine bA ?_ _)); exact BK227.out) hb); have n1_ := am (bB (g := gb228) (o := .cells #[.int .i64 x229000_1, .int .i64 x229001_1] 26 (0, 0)) (by (with_reducible repeat (first | refine bN ?_ _ | refine bD ?_ | refine bA ?_ _)); refine blk_far ?_ NB228_233.out _; (with_reducible repeat (first | refine bN ?_ _ | refine bD ?_ | refine bA ?_ _)); refine blk_far ?_ NB228_233.out _; (with_reducible repeat (first | refine bN ?_ _ | refine bD ?_ | refine bA ?_ _)); exact BK228.out) hb); have n2_ := am (bB (g := gb229) (o := .cells #[.int .i64 x230000_1, .int .i64 x230001_1] 26 (0, 0)) (by (with_reducible repeat (first | refine bN ?_ _ | refine bD ?_ | refine bA ?_ _)); refine blk_far ?_ NB229_233.out _; (with_reducible repeat (first | refine bN ?_ _ | refine bD ?_ | refine bA ?_ _)); refine blk_far ?_ NB229_233.out _; (with_reducible repeat (first | refine bN ?_ _ | refine bD ?_ | refine bA ?_ _)); exact BK229.out) hb); have n3_ := am (bB (g := gb233) (o := .cells #[.int .i64 t230, .int .i64 t231] 26 (0, 0)) (by (with_reducible repeat (first | refine bN ?_ _ | refine bD ?_ | refine bA ?_ _)); refine blk_put (cs := #[.int .i64 t230, .int .i64 0]) ?_ 1 _ rfl; (with_reducible repeat (first | refine bN ?_ _ | refine bD ?_ | refine bA ?_ _)); refine blk_put (cs := #[.int .i64 0, .int .i64 0]) ?_ 0 _ rfl; (with_reducible repeat (first | refine bN ?_ _ | refine bD ?_ | refine bA ?_ _)); exact BK233.out) hb); have n4_ := am (below_step (by repeat (first | (with_reducible first | exact HB.out | apply lA | apply lN | apply lD | refine below_set ?_ GE227.out | refine below_set ?_ GE228.out | refine below_set ?_ GE229.out | refine below_set ?_ GE233.out) | exact HB.out)) hb); clear BK227; clear BK228; clear BK229; clear BK233; clear HB; have BK227 := n0_; have BK228 := n1_; have BK229 := n2_; have BK233 := n3_; have HB := n4_; clear n0_ n1_ n2_ n3_ n4_; (try clear hb); (try clear hb2); (try clear hk); (try clear hi)))
        go_ret
        exact ⟨by first | rfl | (simp [errW_none, errW_some] <;> rfl) | (simp [*, errW_none, errW_some] <;> rfl), by repeat (first | (with_reducible first | exact HB.out | apply lA | apply lN | apply lD | refine below_set ?_ GE227.out | refine below_set ?_ GE228.out | refine below_set ?_ GE229.out | refine below_set ?_ GE233.out) | exact HB.out)⟩
      ·rw [if_neg c96] at H
       exact absurd H (by simp)
     ·replace c95 := Bool.eq_false_iff.mpr c95
      subst c95
      have H1 : (none) = some r := by rw [if_neg (show ¬ (false = true) by decide)] at H; exact H
      clear H
      have H := H1
      clear H1
      exact absurd H (by simp)

/-- What is left to show of reredoslaw06_BudgetParts: of numbers and lists alone. -/
def reredoslaw06_BudgetParts.Pure : Prop := ∀ (a0 : Int) (a1 : Int) (l2 : List Int), ((Lit.int .u32 a0).wf = true) → ((Lit.int .u32 a1).wf = true) → (l2.length ≤ maxLen ∧ ∀ e_ ∈ l2, ((Lit.int .u16 e_).wf = true)) → ∃ k, reredoslaw06_BudgetParts.f k a0 a1 l2 = some true

end Go.Proofs.Ytphonhplgholmaa.P
