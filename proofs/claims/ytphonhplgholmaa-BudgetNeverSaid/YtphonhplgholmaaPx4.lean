/- Walks, written by a program out of the translation. -/
import Derived.Test.YtphonhplgholmaaPx0
import Derived.Test.YtphonhplgholmaaPx2
import Derived.Test.YtphonhplgholmaaPx3
import Derived.Test.YtphonhplgholmaaGBase
import Derived.Test.YtphonhplgholmaaGBudget
namespace Go.Proofs.Ytphonhplgholmaa.P
open Go.RowKit Go.Proofs.YtphonhplgholmaaW.PrintWords Go.Proofs.YtphonhplgholmaaW.PrintLast Go.Proofs.YtphonhplgholmaaW.PrintMore
attribute [local go_sem] max2_int min2_int max_two min_two max_three min_three max_four min_four   -- for this text's walks alone
set_option linter.unusedVariables false
set_option linter.unusedSimpArgs false

attribute [local go_sem high] eqA26
/-! ### reredoslaw06_BudgetNever: function 3 -/
def reredoslaw06_BudgetNever.f (a0_0 : Int) (a0_1 : Int) (a1_0 : Int) (a1_1 : Int) (a2 : Int) : Option (Bool) := (reredoslaw06_shown.f).bind fun t122 => ((budget_New.f a0_0 a0_1).bind fun bt123 => ((reredoslaw06_made.f a1_0 a1_1).bind fun bt126 => ((budget_Budget_Pay.f bt123.1 bt123.2 bt126.1 bt126.2).bind fun bt128 => (if bt128.2.2 = 0 then ((reredoslaw06_made.f a1_0 a1_1).bind fun bt133 => ((budget_Budget_Pay.f (wrap64 (bt123.1 + (wrap64 (a2)))) (wrap64 (bt123.2 + (wrap64 (a2)))) bt133.1 bt133.2).bind fun bt135 => (if t122 = true then (if bt128.1 ≥ 0 then (if bt128.2.1 ≥ 0 then (if bt128.1 ≤ bt123.1 then (if bt128.2.1 ≤ bt123.2 then (if (wrap64 (bt128.1 + a1_0)) = bt123.1 then (if bt135.2.2 = 0 then ((reredoslaw06_made.f a1_0 a1_1).bind fun bt139 => ((budget_Budget_Can.f (wrap64 (bt123.1 + (wrap64 (a2)))) (wrap64 (bt123.2 + (wrap64 (a2)))) bt139.1 bt139.2).bind fun t141 => (some t141))) else (none)) else (none)) else (none)) else (none)) else (none)) else (none)) else (none)))) else (if t122 = true then (if (bt128.1 == 0 && (bt128.2.1 == 0)) = true then (if a1_0 < 0 then (some ((bt128.2.2 == 1) == true)) else (some ((bt128.2.2 == 1) == (decide (a1_1 < 0))))) else (none)) else (none))))))
def reredoslaw06_BudgetNever.T3 : Bool × List (List Nat × List Nat) := (true, [([], []), ([], []), ([1], [1]), ([0, 2, 2], [0, 2]), ([3], [3]), ([4], [4]), ([4], [4]), ([], []), ([7, 5, 3, 0, 1, 2, 3, 4, 5, 7], [5, 7]), ([6, 8, 0, 1, 2, 3, 4, 5, 6, 7, 8], [6])])
def reredoslaw06_BudgetNever.B3 : List Nat := [0, 0, 2, 7, 15, 31, 31, 0, 191, 511]
theorem reredoslaw06_BudgetNever.tab3 : rtab .any (opsOf Try.f3 3) = reredoslaw06_BudgetNever.T3 := by kernel_rfl
theorem reredoslaw06_BudgetNever.bits3 : waitsOk reredoslaw06_BudgetNever.T3.2 reredoslaw06_BudgetNever.B3 = true := by kernel_rfl
def reredoslaw06_BudgetNever.T7 : Bool × List (List Nat × List Nat) := (true, [([], []), ([], []), ([1], [1]), ([0, 2, 2], [0, 2]), ([3], [3]), ([4], [4]), ([4], [4]), ([], []), ([7, 5, 3, 0, 1, 2, 3, 4, 5, 7], [5, 7]), ([6, 8, 0, 1, 2, 3, 4, 5, 6, 7, 8], [6])])
def reredoslaw06_BudgetNever.B7 : List Nat := [0, 0, 2, 7, 15, 31, 31, 0, 191, 511]
theorem reredoslaw06_BudgetNever.tab7 : rtab .any (opsOf Try.f3 7) = reredoslaw06_BudgetNever.T7 := by kernel_rfl
theorem reredoslaw06_BudgetNever.bits7 : waitsOk reredoslaw06_BudgetNever.T7.2 reredoslaw06_BudgetNever.B7 = true := by kernel_rfl
def reredoslaw06_BudgetNever.T8 : Bool × List (List Nat × List Nat) := (true, [([], []), ([0], [0]), ([1], [1]), ([2, 1], [1, 2]), ([3, 1], [1, 3]), ([1, 4], [1, 4]), ([5, 1], [5]), ([6], [6]), ([7, 6], [6, 7]), ([8, 6], [6, 8]), ([6, 9], [6, 9]), ([10, 6], [10]), ([11], [11]), ([12, 11], [11, 12]), ([11], [11]), ([14, 11], [11, 14]), ([13, 15, 11], [11, 13, 15]), ([11, 16], [11, 16]), ([17, 11], [17]), ([18], [18]), ([19, 18], [18, 19]), ([18], [18]), ([21, 18], [18, 21]), ([20, 22, 18], [18, 20, 22]), ([18, 23], [18, 23]), ([24, 18], [24]), ([25], [25]), ([26, 25], [25, 26]), ([25], [25]), ([28, 25], [25, 28]), ([27, 29, 25], [25, 27, 29]), ([25], [25]), ([31, 25], [25, 31]), ([30, 32, 25], [25, 30, 32]), ([25, 33], [25, 33]), ([34, 25], [34]), ([35], [35]), ([36, 35], [35, 36]), ([35, 37], [35, 37]), ([38, 35], [38]), ([39], [39]), ([39], [39]), ([41, 39, 39], [39, 41]), ([40, 42, 42, 39], [39, 40, 42]), ([39, 43], [39, 43]), ([44, 43, 0, 1, 2, 3, 4, 5, 6, 7, 8, 9, 10, 11, 12, 13, 14, 15, 16, 17, 18, 19, 20, 21, 22, 23, 24, 25, 26, 27, 28, 29, 30, 31, 32, 33, 34, 35, 36, 37, 38, 39, 40, 41, 42, 43, 44], [44])])
def reredoslaw06_BudgetNever.B8 : List Nat := [0, 1, 3, 7, 15, 31, 63, 127, 255, 511, 1023, 2047, 4095, 8191, 4095, 20479, 65535, 131071, 262143, 524287, 1048575, 524287, 2621439, 8388607, 16777215, 33554431, 67108863, 134217727, 67108863, 335544319, 1073741823, 67108863, 2214592511, 8589934591, 17179869183, 34359738367, 68719476735, 137438953471, 274877906943, 549755813887, 1099511627775, 1099511627775, 3298534883327, 8796093022207, 17592186044415, 35184372088831]
theorem reredoslaw06_BudgetNever.tab8 : rtab .any (opsOf Try.f3 8) = reredoslaw06_BudgetNever.T8 := by kernel_rfl
theorem reredoslaw06_BudgetNever.bits8 : waitsOk reredoslaw06_BudgetNever.T8.2 reredoslaw06_BudgetNever.B8 = true := by kernel_rfl
set_option maxHeartbeats 8000000 in
set_option maxRecDepth 100000 in
theorem reredoslaw06_BudgetNever.calls (a0_0 : Int) (a0_1 : Int) (a1_0 : Int) (a1_1 : Int) (a2 : Int) (r : Bool) (w : World) (h : reredoslaw06_BudgetNever.f a0_0 a0_1 a1_0 a1_1 a2 = some r) :
  Calls Try.prog 3 #[.agg #[.int .i64 a0_0, .int .i64 a0_1], .agg #[.int .i64 a1_0, .int .i64 a1_1], .int .u32 a2] w fun e w' => e = .returned (.bool r) ∧ Below w.heap.size w w' := by
 have hu23 := Try.underlying23
 have hu26 := Try.underlying26
 have HB := am (Below.refl w.heap.size w)
 have H : ((reredoslaw06_shown.f).bind fun t122 => ((budget_New.f a0_0 a0_1).bind fun bt123 => ((reredoslaw06_made.f a1_0 a1_1).bind fun bt126 => ((budget_Budget_Pay.f bt123.1 bt123.2 bt126.1 bt126.2).bind fun bt128 => (if bt128.2.2 = 0 then ((reredoslaw06_made.f a1_0 a1_1).bind fun bt133 => ((budget_Budget_Pay.f (wrap64 (bt123.1 + (wrap64 (a2)))) (wrap64 (bt123.2 + (wrap64 (a2)))) bt133.1 bt133.2).bind fun bt135 => (if t122 = true then (if bt128.1 ≥ 0 then (if bt128.2.1 ≥ 0 then (if bt128.1 ≤ bt123.1 then (if bt128.2.1 ≤ bt123.2 then (if (wrap64 (bt128.1 + a1_0)) = bt123.1 then (if bt135.2.2 = 0 then ((reredoslaw06_made.f a1_0 a1_1).bind fun bt139 => ((budget_Budget_Can.f (wrap64 (bt123.1 + (wrap64 (a2)))) (wrap64 (bt123.2 + (wrap64 (a2)))) bt139.1 bt139.2).bind fun t141 => (some t141))) else (none)) else (none)) else (none)) else (none)) else (none)) else (none)) else (none)))) else (if t122 = true then (if (bt128.1 == 0 && (bt128.2.1 == 0)) = true then (if a1_0 < 0 then (some ((bt128.2.2 == 1) == true)) else (some ((bt128.2.2 == 1) == (decide (a1_1 < 0))))) else (none)) else (none))))))) = some r := h
 clear h
 replace H := Option.bind_eq_some_iff.mp H
 obtain ⟨t122, A40, H⟩ := H
 replace H : ((budget_New.f a0_0 a0_1).bind fun bt123 => ((reredoslaw06_made.f a1_0 a1_1).bind fun bt126 => ((budget_Budget_Pay.f bt123.1 bt123.2 bt126.1 bt126.2).bind fun bt128 => (if bt128.2.2 = 0 then ((reredoslaw06_made.f a1_0 a1_1).bind fun bt133 => ((budget_Budget_Pay.f (wrap64 (bt123.1 + (wrap64 (a2)))) (wrap64 (bt123.2 + (wrap64 (a2)))) bt133.1 bt133.2).bind fun bt135 => (if t122 = true then (if bt128.1 ≥ 0 then (if bt128.2.1 ≥ 0 then (if bt128.1 ≤ bt123.1 then (if bt128.2.1 ≤ bt123.2 then (if (wrap64 (bt128.1 + a1_0)) = bt123.1 then (if bt135.2.2 = 0 then ((reredoslaw06_made.f a1_0 a1_1).bind fun bt139 => ((budget_Budget_Can.f (wrap64 (bt123.1 + (wrap64 (a2)))) (wrap64 (bt123.2 + (wrap64 (a2)))) bt139.1 bt139.2).bind fun t141 => (some t141))) else (none)) else (none)) else (none)) else (none)) else (none)) else (none)) else (none)))) else (if t122 = true then (if (bt128.1 == 0 && (bt128.2.1 == 0)) = true then (if a1_0 < 0 then (some ((bt128.2.2 == 1) == true)) else (some ((bt128.2.2 == 1) == (decide (a1_1 < 0))))) else (none)) else (none)))))) = some r := H
 have A4 := am A40
 clear A40
 replace H := Option.bind_eq_some_iff.mp H
 obtain ⟨⟨t123, t124⟩, A50, H⟩ := H
 replace H : ((reredoslaw06_made.f a1_0 a1_1).bind fun bt126 => ((budget_Budget_Pay.f t123 t124 bt126.1 bt126.2).bind fun bt128 => (if bt128.2.2 = 0 then ((reredoslaw06_made.f a1_0 a1_1).bind fun bt133 => ((budget_Budget_Pay.f (wrap64 (t123 + (wrap64 (a2)))) (wrap64 (t124 + (wrap64 (a2)))) bt133.1 bt133.2).bind fun bt135 => (if t122 = true then (if bt128.1 ≥ 0 then (if bt128.2.1 ≥ 0 then (if bt128.1 ≤ t123 then (if bt128.2.1 ≤ t124 then (if (wrap64 (bt128.1 + a1_0)) = t123 then (if bt135.2.2 = 0 then ((reredoslaw06_made.f a1_0 a1_1).bind fun bt139 => ((budget_Budget_Can.f (wrap64 (t123 + (wrap64 (a2)))) (wrap64 (t124 + (wrap64 (a2)))) bt139.1 bt139.2).bind fun t141 => (some t141))) else (none)) else (none)) else (none)) else (none)) else (none)) else (none)) else (none)))) else (if t122 = true then (if (bt128.1 == 0 && (bt128.2.1 == 0)) = true then (if a1_0 < 0 then (some ((bt128.2.2 == 1) == true)) else (some ((bt128.2.2 == 1) == (decide (a1_1 < 0))))) else (none)) else (none))))) = some r := H
 have A5 := am A50
 clear A50
 replace H := Option.bind_eq_some_iff.mp H
 obtain ⟨⟨t126, t127⟩, A60, H⟩ := H
 replace H : ((budget_Budget_Pay.f t123 t124 t126 t127).bind fun bt128 => (if bt128.2.2 = 0 then ((reredoslaw06_made.f a1_0 a1_1).bind fun bt133 => ((budget_Budget_Pay.f (wrap64 (t123 + (wrap64 (a2)))) (wrap64 (t124 + (wrap64 (a2)))) bt133.1 bt133.2).bind fun bt135 => (if t122 = true then (if bt128.1 ≥ 0 then (if bt128.2.1 ≥ 0 then (if bt128.1 ≤ t123 then (if bt128.2.1 ≤ t124 then (if (wrap64 (bt128.1 + a1_0)) = t123 then (if bt135.2.2 = 0 then ((reredoslaw06_made.f a1_0 a1_1).bind fun bt139 => ((budget_Budget_Can.f (wrap64 (t123 + (wrap64 (a2)))) (wrap64 (t124 + (wrap64 (a2)))) bt139.1 bt139.2).bind fun t141 => (some t141))) else (none)) else (none)) else (none)) else (none)) else (none)) else (none)) else (none)))) else (if t122 = true then (if (bt128.1 == 0 && (bt128.2.1 == 0)) = true then (if a1_0 < 0 then (some ((bt128.2.2 == 1) == true)) else (some ((bt128.2.2 == 1) == (decide (a1_1 < 0))))) else (none)) else (none)))) = some r := H
 have A6 := am A60
 clear A60
 replace H := Option.bind_eq_some_iff.mp H
 obtain ⟨⟨t128, t129, t130⟩, A70, H⟩ := H
 replace H : (if t130 = 0 then ((reredoslaw06_made.f a1_0 a1_1).bind fun bt133 => ((budget_Budget_Pay.f (wrap64 (t123 + (wrap64 (a2)))) (wrap64 (t124 + (wrap64 (a2)))) bt133.1 bt133.2).bind fun bt135 => (if t122 = true then (if t128 ≥ 0 then (if t129 ≥ 0 then (if t128 ≤ t123 then (if t129 ≤ t124 then (if (wrap64 (t128 + a1_0)) = t123 then (if bt135.2.2 = 0 then ((reredoslaw06_made.f a1_0 a1_1).bind fun bt139 => ((budget_Budget_Can.f (wrap64 (t123 + (wrap64 (a2)))) (wrap64 (t124 + (wrap64 (a2)))) bt139.1 bt139.2).bind fun t141 => (some t141))) else (none)) else (none)) else (none)) else (none)) else (none)) else (none)) else (none)))) else (if t122 = true then (if (t128 == 0 && (t129 == 0)) = true then (if a1_0 < 0 then (some ((t130 == 1) == true)) else (some ((t130 == 1) == (decide (a1_1 < 0))))) else (none)) else (none))) = some r := H
 have A7 := am A70
 clear A70
 by_cases c8 : t130 = 0
 ·rw [if_pos c8] at H
  have c8b0 : (t130 == 0) = true := beq_iff_eq.mpr c8
  have c8b1 : (t130 != 0) = false := bne_eq_false_iff_eq.mpr c8
  clear c8
  replace H := Option.bind_eq_some_iff.mp H
  obtain ⟨⟨t133, t134⟩, A90, H⟩ := H
  replace H : ((budget_Budget_Pay.f (wrap64 (t123 + (wrap64 (a2)))) (wrap64 (t124 + (wrap64 (a2)))) t133 t134).bind fun bt135 => (if t122 = true then (if t128 ≥ 0 then (if t129 ≥ 0 then (if t128 ≤ t123 then (if t129 ≤ t124 then (if (wrap64 (t128 + a1_0)) = t123 then (if bt135.2.2 = 0 then ((reredoslaw06_made.f a1_0 a1_1).bind fun bt139 => ((budget_Budget_Can.f (wrap64 (t123 + (wrap64 (a2)))) (wrap64 (t124 + (wrap64 (a2)))) bt139.1 bt139.2).bind fun t141 => (some t141))) else (none)) else (none)) else (none)) else (none)) else (none)) else (none)) else (none))) = some r := H
  have A9 := am A90
  clear A90
  replace H := Option.bind_eq_some_iff.mp H
  obtain ⟨⟨t135, t136, t137⟩, A100, H⟩ := H
  replace H : (if t122 = true then (if t128 ≥ 0 then (if t129 ≥ 0 then (if t128 ≤ t123 then (if t129 ≤ t124 then (if (wrap64 (t128 + a1_0)) = t123 then (if t137 = 0 then ((reredoslaw06_made.f a1_0 a1_1).bind fun bt139 => ((budget_Budget_Can.f (wrap64 (t123 + (wrap64 (a2)))) (wrap64 (t124 + (wrap64 (a2)))) bt139.1 bt139.2).bind fun t141 => (some t141))) else (none)) else (none)) else (none)) else (none)) else (none)) else (none)) else (none)) = some r := H
  have A10 := am A100
  clear A100
  by_cases c11 : t122 = true
  ·subst c11
   have H1 : (if t128 ≥ 0 then (if t129 ≥ 0 then (if t128 ≤ t123 then (if t129 ≤ t124 then (if (wrap64 (t128 + a1_0)) = t123 then (if t137 = 0 then ((reredoslaw06_made.f a1_0 a1_1).bind fun bt139 => ((budget_Budget_Can.f (wrap64 (t123 + (wrap64 (a2)))) (wrap64 (t124 + (wrap64 (a2)))) bt139.1 bt139.2).bind fun t141 => (some t141))) else (none)) else (none)) else (none)) else (none)) else (none)) else (none)) = some r := by rw [if_pos rfl] at H; exact H
   clear H
   have H := H1
   clear H1
   by_cases c12 : t128 ≥ 0
   ·rw [if_pos c12] at H
    have c12b0 : decide (0 ≤ t128) = true := decide_eq_true c12
    clear c12
    by_cases c13 : t129 ≥ 0
    ·rw [if_pos c13] at H
     have c13b0 : decide (0 ≤ t129) = true := decide_eq_true c13
     clear c13
     by_cases c14 : t128 ≤ t123
     ·rw [if_pos c14] at H
      have c14b0 : decide (t128 ≤ t123) = true := decide_eq_true c14
      clear c14
      by_cases c15 : t129 ≤ t124
      ·rw [if_pos c15] at H
       have c15b0 : decide (t129 ≤ t124) = true := decide_eq_true c15
       clear c15
       by_cases c16 : (wrap64 (t128 + a1_0)) = t123
       ·rw [if_pos c16] at H
        have c16b0 : ((wrap64 (t128 + a1_0)) == t123) = true := beq_iff_eq.mpr c16
        have c16b1 : ((wrap64 (t128 + a1_0)) != t123) = false := bne_eq_false_iff_eq.mpr c16
        clear c16
        by_cases c17 : t137 = 0
        ·rw [if_pos c17] at H
         have c17b0 : (t137 == 0) = true := beq_iff_eq.mpr c17
         have c17b1 : (t137 != 0) = false := bne_eq_false_iff_eq.mpr c17
         clear c17
         replace H := Option.bind_eq_some_iff.mp H
         obtain ⟨⟨t139, t140⟩, A180, H⟩ := H
         replace H : ((budget_Budget_Can.f (wrap64 (t123 + (wrap64 (a2)))) (wrap64 (t124 + (wrap64 (a2)))) t139 t140).bind fun t141 => (some t141)) = some r := H
         have A18 := am A180
         clear A180
         replace H := Option.bind_eq_some_iff.mp H
         obtain ⟨t141, A190, H⟩ := H
         replace H : (some t141) = some r := H
         have A19 := am A190
         clear A190
         obtain rfl := Option.some.inj H
         go_enter Try.func3, Try.ntmps3
         try go_wp2_with (first | ((with_reducible refine gate_dst (N := 3) rfl ?_); refine box_event ?hg (N := 3) ?hd (cs := #[.int .i64 a0_0, .int .i64 a0_1]) (t := 23) ?hr ?_; (case hd => rfl); (case hg => rfl); (case hr => first | (go_simp; done) | (go_simp; rfl)); intro gb120 hg w20 hbox hb; have n0_ := am (below_step (by repeat (first | (with_reducible first | exact HB.out | apply lA | apply lN | apply lD) | exact HB.out)) hb); have n1_ := am (hbox); have n2_ := am ((by rw [hg]; exact (below_size (by repeat (first | (with_reducible first | exact HB.out | apply lA | apply lN | apply lD) | exact HB.out))) : w.heap.size ≤ gb120)); have n3_ := n2_; clear HB; have HB := n0_; have BK120 := n1_; have GW120 := n2_; have GE120 := n3_; clear n0_ n1_ n2_ n3_; clear hb hbox hg) | ((with_reducible refine gate_dst (N := 4) rfl ?_); refine box_event ?hg (N := 4) ?hd (cs := #[.int .i64 a1_0, .int .i64 a1_1]) (t := 23) ?hr ?_; (case hd => rfl); (case hg => rfl); (case hr => first | (go_simp; done) | (go_simp; rfl)); intro gb121 hg w21 hbox hb; have n0_ := am (bB (g := gb120) (o := .cells #[.int .i64 a0_0, .int .i64 a0_1] 23 (0, 0)) (by (with_reducible repeat (first | refine bN ?_ _ | refine bD ?_ | refine bA ?_ _)); exact BK120.out) hb); have n1_ := am (below_step (by repeat (first | (with_reducible first | exact HB.out | apply lA | apply lN | apply lD | refine below_set ?_ GE120.out) | exact HB.out)) hb); have n2_ := am (hbox); have n3_ := am ((by rw [hg]; exact (below_size (by repeat (first | (with_reducible first | exact HB.out | apply lA | apply lN | apply lD | refine below_set ?_ GE120.out) | exact HB.out))) : w.heap.size ≤ gb121)); have n4_ := n3_; have n5_ := am ((by rw [hg]; exact Nat.ne_of_lt (blk_lt (g := gb120) (o := .cells #[.int .i64 a0_0, .int .i64 a0_1] 23 (0, 0)) (by (with_reducible repeat (first | refine bN ?_ _ | refine bD ?_ | refine bA ?_ _)); exact BK120.out)) : gb120 ≠ gb121)); have n6_ := am ((by rw [hg]; exact Nat.ne_of_gt (blk_lt (g := gb120) (o := .cells #[.int .i64 a0_0, .int .i64 a0_1] 23 (0, 0)) (by (with_reducible repeat (first | refine bN ?_ _ | refine bD ?_ | refine bA ?_ _)); exact BK120.out)) : gb121 ≠ gb120)); clear BK120; clear HB; have BK120 := n0_; have HB := n1_; have BK121 := n2_; have GW121 := n3_; have GE121 := n4_; have NB120_121 := n5_; have NB121_120 := n6_; clear n0_ n1_ n2_ n3_ n4_ n5_ n6_; clear hb hbox hg) | ((with_reducible refine gate_callee (f := 12) rfl ?_); refine goesL_ (some 14) rfl rfl Try.func12 (by kernel_rfl) rfl #[] rfl (by (try simp only [List.map_toArray, List.map_cons, List.map_nil]); first | done | rfl | (simp only [List.length_drop, List.length_take]; rfl)) ?_; (with_reducible refine (reredoslaw06_shown.calls  true _ A4.out).mono ?_); rintro e w22 ⟨rfl, hb⟩; refine ⟨_, rfl, ?_⟩; have n0_ := am (bB (g := gb120) (o := .cells #[.int .i64 a0_0, .int .i64 a0_1] 23 (0, 0)) (by (with_reducible repeat (first | refine bN ?_ _ | refine bD ?_ | refine bA ?_ _)); exact BK120.out) hb); have n1_ := am (bB (g := gb121) (o := .cells #[.int .i64 a1_0, .int .i64 a1_1] 23 (0, 0)) (by (with_reducible repeat (first | refine bN ?_ _ | refine bD ?_ | refine bA ?_ _)); exact BK121.out) hb); have n2_ := am (below_step (by repeat (first | (with_reducible first | exact HB.out | apply lA | apply lN | apply lD | refine below_set ?_ GE120.out | refine below_set ?_ GE121.out) | exact HB.out)) hb); clear BK120; clear BK121; clear HB; have BK120 := n0_; have BK121 := n1_; have HB := n2_; clear n0_ n1_ n2_; (try clear hb); (try clear hb2); (try clear hk); (try clear hi); have hnb23 := NB120_121.out; have hnc23 := NB121_120.out; have hcz24_0 : w22.cell? ⟨gb120, 0, none⟩ = some (.int .i64 a0_0) := (blk_cell BK120.out 0).trans rfl; have hcz24_1 : w22.cell? ⟨gb120, 1, none⟩ = some (.int .i64 a0_1) := (blk_cell BK120.out 1).trans rfl; have hfz24_0 := blk_frozen BK120.out 0; have hfz24_1 := blk_frozen BK120.out 1) | ((with_reducible refine gate_callee (f := 13) rfl ?_); refine goesL_ (some 19) rfl rfl Try.func13 (by kernel_rfl) rfl #[.int .i64 a0_0, .int .i64 a0_1] rfl (by (try simp only [List.map_toArray, List.map_cons, List.map_nil]); first | done | rfl | (simp only [List.length_drop, List.length_take]; rfl)) ?_; (with_reducible refine (budget_New.calls a0_0 a0_1 t123 t124 _ A5.out).mono ?_); rintro e w25 ⟨rfl, hb⟩; refine ⟨_, rfl, ?_⟩; have n0_ := am (bB (g := gb120) (o := .cells #[.int .i64 a0_0, .int .i64 a0_1] 23 (0, 0)) (by (with_reducible repeat (first | refine bN ?_ _ | refine bD ?_ | refine bA ?_ _)); exact BK120.out) hb); have n1_ := am (bB (g := gb121) (o := .cells #[.int .i64 a1_0, .int .i64 a1_1] 23 (0, 0)) (by (with_reducible repeat (first | refine bN ?_ _ | refine bD ?_ | refine bA ?_ _)); exact BK121.out) hb); have n2_ := am (below_step (by repeat (first | (with_reducible first | exact HB.out | apply lA | apply lN | apply lD | refine below_set ?_ GE120.out | refine below_set ?_ GE121.out) | exact HB.out)) hb); clear BK120; clear BK121; clear HB; have BK120 := n0_; have BK121 := n1_; have HB := n2_; clear n0_ n1_ n2_; (try clear hb); (try clear hb2); (try clear hk); (try clear hi)) | ((with_reducible refine gate_dst (N := 8) rfl ?_); refine box_event ?hg (N := 8) ?hd (cs := #[.int .i64 0, .int .i64 0]) (t := 26) ?hr ?_; (case hd => rfl); (case hg => rfl); (case hr => first | (go_simp; done) | (go_simp; rfl)); intro gb125 hg w26 hbox hb; have n0_ := am (bB (g := gb120) (o := .cells #[.int .i64 a0_0, .int .i64 a0_1] 23 (0, 0)) (by (with_reducible repeat (first | refine bN ?_ _ | refine bD ?_ | refine bA ?_ _)); exact BK120.out) hb); have n1_ := am (bB (g := gb121) (o := .cells #[.int .i64 a1_0, .int .i64 a1_1] 23 (0, 0)) (by (with_reducible repeat (first | refine bN ?_ _ | refine bD ?_ | refine bA ?_ _)); exact BK121.out) hb); have n2_ := am (below_step (by repeat (first | (with_reducible first | exact HB.out | apply lA | apply lN | apply lD | refine below_set ?_ GE120.out | refine below_set ?_ GE121.out) | exact HB.out)) hb); have n3_ := am (hbox); have n4_ := am ((by rw [hg]; exact (below_size (by repeat (first | (with_reducible first | exact HB.out | apply lA | apply lN | apply lD | refine below_set ?_ GE120.out | refine below_set ?_ GE121.out) | exact HB.out))) : w.heap.size ≤ gb125)); have n5_ := n4_; have n6_ := am ((by rw [hg]; exact Nat.ne_of_lt (blk_lt (g := gb120) (o := .cells #[.int .i64 a0_0, .int .i64 a0_1] 23 (0, 0)) (by (with_reducible repeat (first | refine bN ?_ _ | refine bD ?_ | refine bA ?_ _)); exact BK120.out)) : gb120 ≠ gb125)); have n7_ := am ((by rw [hg]; exact Nat.ne_of_gt (blk_lt (g := gb120) (o := .cells #[.int .i64 a0_0, .int .i64 a0_1] 23 (0, 0)) (by (with_reducible repeat (first | refine bN ?_ _ | refine bD ?_ | refine bA ?_ _)); exact BK120.out)) : gb125 ≠ gb120)); have n8_ := am ((by rw [hg]; exact Nat.ne_of_lt (blk_lt (g := gb121) (o := .cells #[.int .i64 a1_0, .int .i64 a1_1] 23 (0, 0)) (by (with_reducible repeat (first | refine bN ?_ _ | refine bD ?_ | refine bA ?_ _)); exact BK121.out)) : gb121 ≠ gb125)); have n9_ := am ((by rw [hg]; exact Nat.ne_of_gt (blk_lt (g := gb121) (o := .cells #[.int .i64 a1_0, .int .i64 a1_1] 23 (0, 0)) (by (with_reducible repeat (first | refine bN ?_ _ | refine bD ?_ | refine bA ?_ _)); exact BK121.out)) : gb125 ≠ gb121)); clear BK120; clear BK121; clear HB; have BK120 := n0_; have BK121 := n1_; have HB := n2_; have BK125 := n3_; have GW125 := n4_; have GE125 := n5_; have NB120_125 := n6_; have NB125_120 := n7_; have NB121_125 := n8_; have NB125_121 := n9_; clear n0_ n1_ n2_ n3_ n4_ n5_ n6_ n7_ n8_ n9_; clear hb hbox hg; have hnb27 := NB125_120.out; have hnc27 := NB120_125.out; have hnb28 := NB125_121.out; have hnc28 := NB121_125.out; have hcz29_0 : w26.cell? ⟨gb125, 0, none⟩ = some (.int .i64 0) := (blk_cell BK125.out 0).trans rfl; have hcz29_1 : w26.cell? ⟨gb125, 1, none⟩ = some (.int .i64 0) := (blk_cell BK125.out 1).trans rfl; have hfz29_0 := blk_frozen BK125.out 0; have hfz29_1 := blk_frozen BK125.out 1))
         have n0_ : Aside0 (((w26.setCell ⟨gb125, 0, none⟩ (.int .i64 t123)).setCell ⟨gb125, 1, none⟩ (.int .i64 t124)).heap[gb120]? = some (.cells #[.int .i64 a0_0, .int .i64 a0_1] 23 (0, 0))) := ⟨by (with_reducible repeat (first | refine bN ?_ _ | refine bD ?_ | refine bA ?_ _)); refine blk_far ?_ NB120_125.out _; (with_reducible repeat (first | refine bN ?_ _ | refine bD ?_ | refine bA ?_ _)); refine blk_far ?_ NB120_125.out _; (with_reducible repeat (first | refine bN ?_ _ | refine bD ?_ | refine bA ?_ _)); exact BK120.out⟩
         have n1_ : Aside0 (((w26.setCell ⟨gb125, 0, none⟩ (.int .i64 t123)).setCell ⟨gb125, 1, none⟩ (.int .i64 t124)).heap[gb121]? = some (.cells #[.int .i64 a1_0, .int .i64 a1_1] 23 (0, 0))) := ⟨by (with_reducible repeat (first | refine bN ?_ _ | refine bD ?_ | refine bA ?_ _)); refine blk_far ?_ NB121_125.out _; (with_reducible repeat (first | refine bN ?_ _ | refine bD ?_ | refine bA ?_ _)); refine blk_far ?_ NB121_125.out _; (with_reducible repeat (first | refine bN ?_ _ | refine bD ?_ | refine bA ?_ _)); exact BK121.out⟩
         have n2_ : Aside0 (((w26.setCell ⟨gb125, 0, none⟩ (.int .i64 t123)).setCell ⟨gb125, 1, none⟩ (.int .i64 t124)).heap[gb125]? = some (.cells #[.int .i64 t123, .int .i64 t124] 26 (0, 0))) := ⟨by (with_reducible repeat (first | refine bN ?_ _ | refine bD ?_ | refine bA ?_ _)); refine blk_put (cs := #[.int .i64 t123, .int .i64 0]) ?_ 1 _ rfl; (with_reducible repeat (first | refine bN ?_ _ | refine bD ?_ | refine bA ?_ _)); refine blk_put (cs := #[.int .i64 0, .int .i64 0]) ?_ 0 _ rfl; (with_reducible repeat (first | refine bN ?_ _ | refine bD ?_ | refine bA ?_ _)); exact BK125.out⟩
         have n3_ : Aside0 (Below w.heap.size w ((w26.setCell ⟨gb125, 0, none⟩ (.int .i64 t123)).setCell ⟨gb125, 1, none⟩ (.int .i64 t124))) := ⟨by repeat (first | (with_reducible first | exact HB.out | apply lA | apply lN | apply lD | refine below_set ?_ GE120.out | refine below_set ?_ GE121.out | refine below_set ?_ GE125.out) | exact HB.out)⟩
         (try clear BK120)
         (try clear BK121)
         (try clear BK125)
         (try clear HB)
         generalize ((w26.setCell ⟨gb125, 0, none⟩ (.int .i64 t123)).setCell ⟨gb125, 1, none⟩ (.int .i64 t124)) = w30 at n0_ n1_ n2_ n3_ ⊢
         have BK120 := n0_
         have BK121 := n1_
         have BK125 := n2_
         have HB := n3_
         clear n0_ n1_ n2_ n3_
         have n0_ := am (bD BK120.out)
         have n1_ := am (bD BK121.out)
         have n2_ := am (bD BK125.out)
         have n3_ := am (lD HB.out)
         clear BK120
         clear BK121
         clear BK125
         clear HB
         have BK120 := n0_
         have BK121 := n1_
         have BK125 := n2_
         have HB := n3_
         clear n0_ n1_ n2_ n3_
         refine start_ (n := 10) (S := fun w' => w'.cell? ⟨gb125, 0, none⟩ = some (.int .i64 t123) ∧ w'.cell? ⟨gb125, 1, none⟩ = some (.int .i64 t124) ∧ w'.cell? ⟨gb121, 0, none⟩ = some (.int .i64 a1_0) ∧ w'.cell? ⟨gb121, 1, none⟩ = some (.int .i64 a1_1)) (ds := []) #[false, false, false, false, false, false, false, false, false, false] (by kernel_rfl) rfl rfl ⟨(blk_cell BK125.out 0).trans rfl, (blk_cell BK125.out 1).trans rfl, (blk_cell BK121.out 0).trans rfl, (blk_cell BK121.out 1).trans rfl⟩ (fun hHeld => ?_); refine with_tabW reredoslaw06_BudgetNever.tab3 reredoslaw06_BudgetNever.bits3 (fun HT_ HW_ => ?_)
         generalize w30.drew = w31 at BK120 BK121 BK125 HB hHeld ⊢
         refine take_ (i := 0) (N := some 21) (v := ?_) (a' := ?_) #[true, false, false, false, false, false, false, false, false, false] rfl rfl (take_ofW HT_.out HW_.out (by kernel_rfl)) (fun _ _ _ h => h) (Or.inl ⟨by rfl, ?_⟩) hHeld ?_ ?_
         rotate_left
         ·rintro w' ⟨s0, s1, s2, s3⟩
          go_simp
          with_reducible rfl
         rotate_left
         ·simp only [Act.put, zT, z0, zS, i64_w, i32_w]
          rfl
         refine take_ (i := 1) (N := some 22) (v := ?_) (a' := ?_) #[true, true, false, false, false, false, false, false, false, false] rfl rfl (take_ofW HT_.out HW_.out (by kernel_rfl)) (fun _ _ _ h => h) (Or.inl ⟨by rfl, ?_⟩) hHeld ?_ ?_
         rotate_left
         ·rintro w' ⟨s0, s1, s2, s3⟩
          go_simp
          with_reducible rfl
         rotate_left
         ·simp only [Act.put, zT, z0, zS, i64_w, i32_w]
          rfl
         refine join_ (σ := Nat) 2 #[true, true, true, true, true, true, true, true, false, false] (fun s_ => [(23, .agg #[.int .i64 t126, .int .i64 t127]), (24, .tuple #[.agg #[.int .i64 t128, .int .i64 t129], .int .i64 t130]), (9, .pointer (some ⟨s_, 0, none⟩)), (20, .tuple #[.agg #[.int .i64 t128, .int .i64 t129], .int .i64 t130]), (25, .agg #[.int .i64 t128, .int .i64 t129]), (26, .int .i64 t130)]) (fun s_ w' => (w'.cell? ⟨gb125, 0, none⟩ = some (.int .i64 t123) ∧ w'.cell? ⟨gb125, 1, none⟩ = some (.int .i64 t124) ∧ w'.cell? ⟨gb121, 0, none⟩ = some (.int .i64 a1_0) ∧ w'.cell? ⟨gb121, 1, none⟩ = some (.int .i64 a1_1)) ∧ (w'.heap[gb120]? = some (.cells #[.int .i64 a0_0, .int .i64 a0_1] 23 (0, 0))) ∧ (w'.heap[gb121]? = some (.cells #[.int .i64 a1_0, .int .i64 a1_1] 23 (0, 0))) ∧ (w'.heap[gb125]? = some (.cells #[.int .i64 t123, .int .i64 t124] 26 (0, 0))) ∧ (w'.heap[s_]? = some (.cells #[.int .i64 0, .int .i64 0] 26 (0, 0))) ∧ (w.heap.size ≤ s_) ∧ (w.heap.size ≤ s_) ∧ (gb120 ≠ s_) ∧ (s_ ≠ gb120) ∧ (gb121 ≠ s_) ∧ (s_ ≠ gb121) ∧ (gb125 ≠ s_) ∧ (s_ ≠ gb125) ∧ (Below w.heap.size w w')) ?_ ?_
         rotate_left
         ·intro hCont
          refine two_ (i := 2) (j := 7) (Ni := some 23) (Nj := some 9) #[true, true, true, false, false, false, false, false, false, false] #[true, true, false, false, false, false, false, true, false, false] rfl rfl rfl rfl (two_of HT_.out (by kernel_rfl)) (by decide) (by decide) (fun K hK => ?_) (fun K hK => ?_)
          ·skip
           refine goes_ Try.func15 (by kernel_rfl) rfl #[.agg #[.int .i64 a1_0, .int .i64 a1_1]] (by rfl) rfl rfl (by (try simp only [List.map_toArray, List.map_cons, List.map_nil]); first | done | rfl | (simp only [List.length_drop, List.length_take]; rfl)) ?_
           with_reducible refine (reredoslaw06_made.calls a1_0 a1_1 t126 t127 _ A6.out).mono ?_
           rintro e w32 ⟨rfl, hb⟩
           refine ⟨_, rfl, ?_⟩
           have n0_ := am (bB (g := gb120) (o := .cells #[.int .i64 a0_0, .int .i64 a0_1] 23 (0, 0)) (by (with_reducible repeat (first | refine bN ?_ _ | refine bD ?_ | refine bA ?_ _)); exact BK120.out) hb)
           have n1_ := am (bB (g := gb121) (o := .cells #[.int .i64 a1_0, .int .i64 a1_1] 23 (0, 0)) (by (with_reducible repeat (first | refine bN ?_ _ | refine bD ?_ | refine bA ?_ _)); exact BK121.out) hb)
           have n2_ := am (bB (g := gb125) (o := .cells #[.int .i64 t123, .int .i64 t124] 26 (0, 0)) (by (with_reducible repeat (first | refine bN ?_ _ | refine bD ?_ | refine bA ?_ _)); exact BK125.out) hb)
           have n3_ := am (below_step (by repeat (first | (with_reducible first | exact HB.out | apply lA | apply lN | apply lD | refine below_set ?_ GE120.out | refine below_set ?_ GE121.out | refine below_set ?_ GE125.out) | exact HB.out)) hb)
           clear BK120
           clear BK121
           clear BK125
           clear HB
           have BK120 := n0_
           have BK121 := n1_
           have BK125 := n2_
           have HB := n3_
           clear n0_ n1_ n2_ n3_
           (try clear hb)
           (try clear hb2)
           (try clear hk)
           (try clear hi)
           refine hK.out _ _ ⟨(blk_cell BK125.out 0).trans rfl, (blk_cell BK125.out 1).trans rfl, (blk_cell BK121.out 0).trans rfl, (blk_cell BK121.out 1).trans rfl⟩ (fun hHeld => ?_)
           clear hK K
           refine norm_ (a' := ?_) ?_ ?_
           rotate_left
           ·show Act.put _ (some 23) _ = _
            simp only [Act.put, zT, z0, zS, i64_w, i32_w]
            rfl
           refine two_ (i := 3) (j := 7) (Ni := some 24) (Nj := some 9) #[true, true, true, true, false, false, false, false, false, false] #[true, true, true, false, false, false, false, true, false, false] rfl rfl rfl rfl (two_of HT_.out (by kernel_rfl)) (by decide) (by decide) (fun K hK => ?_) (fun K hK => ?_)
           ·skip
            refine goes_ Try.func14 (by kernel_rfl) rfl #[.agg #[.int .i64 t123, .int .i64 t124], .agg #[.int .i64 t126, .int .i64 t127]] (by rfl) rfl rfl (by (try simp only [List.map_toArray, List.map_cons, List.map_nil]); first | done | rfl | (simp only [List.length_drop, List.length_take]; rfl)) ?_
            with_reducible refine (budget_Budget_Pay.calls t123 t124 t126 t127 t128 t129 t130 _ A7.out).mono ?_
            rintro e w33 ⟨rfl, hb⟩
            refine ⟨_, rfl, ?_⟩
            have n0_ := am (bB (g := gb120) (o := .cells #[.int .i64 a0_0, .int .i64 a0_1] 23 (0, 0)) (by (with_reducible repeat (first | refine bN ?_ _ | refine bD ?_ | refine bA ?_ _)); exact BK120.out) hb)
            have n1_ := am (bB (g := gb121) (o := .cells #[.int .i64 a1_0, .int .i64 a1_1] 23 (0, 0)) (by (with_reducible repeat (first | refine bN ?_ _ | refine bD ?_ | refine bA ?_ _)); exact BK121.out) hb)
            have n2_ := am (bB (g := gb125) (o := .cells #[.int .i64 t123, .int .i64 t124] 26 (0, 0)) (by (with_reducible repeat (first | refine bN ?_ _ | refine bD ?_ | refine bA ?_ _)); exact BK125.out) hb)
            have n3_ := am (below_step (by repeat (first | (with_reducible first | exact HB.out | apply lA | apply lN | apply lD | refine below_set ?_ GE120.out | refine below_set ?_ GE121.out | refine below_set ?_ GE125.out) | exact HB.out)) hb)
            clear BK120
            clear BK121
            clear BK125
            clear HB
            have BK120 := n0_
            have BK121 := n1_
            have BK125 := n2_
            have HB := n3_
            clear n0_ n1_ n2_ n3_
            (try clear hb)
            (try clear hb2)
            (try clear hk)
            (try clear hi)
            refine hK.out _ _ ⟨(blk_cell BK125.out 0).trans rfl, (blk_cell BK125.out 1).trans rfl, (blk_cell BK121.out 0).trans rfl, (blk_cell BK121.out 1).trans rfl⟩ (fun hHeld => ?_)
            clear hK K
            refine norm_ (a' := ?_) ?_ ?_
            rotate_left
            ·show Act.put _ (some 24) _ = _
             simp only [Act.put, zT, z0, zS, i64_w, i32_w]
             rfl
            refine pure_ (i := 4) (N := some 20) (v := ?_) (a' := ?_) #[true, true, true, true, true, false, false, false, false, false] rfl rfl (any_of HT_.out (by kernel_rfl)) (fun _ _ _ h => h) (Or.inl ⟨by rfl, ?_⟩) ?_ ?_
            rotate_left
            ·intro w'
             go_simp
             with_reducible rfl
            rotate_left
            ·simp only [Act.put, zT, z0, zS, i64_w, i32_w]
             rfl
            refine pure_ (i := 5) (N := some 25) (v := ?_) (a' := ?_) #[true, true, true, true, true, true, false, false, false, false] rfl rfl (any_of HT_.out (by kernel_rfl)) (fun _ _ _ h => h) (Or.inl ⟨by rfl, ?_⟩) ?_ ?_
            rotate_left
            ·intro w'
             go_simp
             with_reducible rfl
            rotate_left
            ·simp only [Act.put, zT, z0, zS, i64_w, i32_w]
             rfl
            refine pure_ (i := 6) (N := some 26) (v := ?_) (a' := ?_) #[true, true, true, true, true, true, true, false, false, false] rfl rfl (any_of HT_.out (by kernel_rfl)) (fun _ _ _ h => h) (Or.inl ⟨by rfl, ?_⟩) ?_ ?_
            rotate_left
            ·intro w'
             go_simp
             with_reducible rfl
            rotate_left
            ·simp only [Act.put, zT, z0, zS, i64_w, i32_w]
             rfl
            refine one_ (i := 7) (N := some 9) #[true, true, true, true, true, true, true, true, false, false] rfl rfl (one_of HT_.out (by kernel_rfl)) (by decide) (fun K hK => ?_)
            refine box_step ?hg (N := 9) ?hd (cs := #[.int .i64 0, .int .i64 0]) (t := 26) ?hr ?_; (case hd => rfl); (case hg => rfl); (case hr => first | (go_simp; done) | (go_simp; rfl))
            intro gb131 hg w34 hbox hb
            have n0_ := am (bB (g := gb120) (o := .cells #[.int .i64 a0_0, .int .i64 a0_1] 23 (0, 0)) (by (with_reducible repeat (first | refine bN ?_ _ | refine bD ?_ | refine bA ?_ _)); exact BK120.out) hb)
            have n1_ := am (bB (g := gb121) (o := .cells #[.int .i64 a1_0, .int .i64 a1_1] 23 (0, 0)) (by (with_reducible repeat (first | refine bN ?_ _ | refine bD ?_ | refine bA ?_ _)); exact BK121.out) hb)
            have n2_ := am (bB (g := gb125) (o := .cells #[.int .i64 t123, .int .i64 t124] 26 (0, 0)) (by (with_reducible repeat (first | refine bN ?_ _ | refine bD ?_ | refine bA ?_ _)); exact BK125.out) hb)
            have n3_ := am (below_step (by repeat (first | (with_reducible first | exact HB.out | apply lA | apply lN | apply lD | refine below_set ?_ GE120.out | refine below_set ?_ GE121.out | refine below_set ?_ GE125.out) | exact HB.out)) hb)
            have n4_ := am (hbox)
            have n5_ := am ((by rw [hg]; exact (below_size (by repeat (first | (with_reducible first | exact HB.out | apply lA | apply lN | apply lD | refine below_set ?_ GE120.out | refine below_set ?_ GE121.out | refine below_set ?_ GE125.out) | exact HB.out))) : w.heap.size ≤ gb131))
            have n6_ := n5_
            have n7_ := am ((by rw [hg]; exact Nat.ne_of_lt (blk_lt (g := gb120) (o := .cells #[.int .i64 a0_0, .int .i64 a0_1] 23 (0, 0)) (by (with_reducible repeat (first | refine bN ?_ _ | refine bD ?_ | refine bA ?_ _)); exact BK120.out)) : gb120 ≠ gb131))
            have n8_ := am ((by rw [hg]; exact Nat.ne_of_gt (blk_lt (g := gb120) (o := .cells #[.int .i64 a0_0, .int .i64 a0_1] 23 (0, 0)) (by (with_reducible repeat (first | refine bN ?_ _ | refine bD ?_ | refine bA ?_ _)); exact BK120.out)) : gb131 ≠ gb120))
            have n9_ := am ((by rw [hg]; exact Nat.ne_of_lt (blk_lt (g := gb121) (o := .cells #[.int .i64 a1_0, .int .i64 a1_1] 23 (0, 0)) (by (with_reducible repeat (first | refine bN ?_ _ | refine bD ?_ | refine bA ?_ _)); exact BK121.out)) : gb121 ≠ gb131))
            have n10_ := am ((by rw [hg]; exact Nat.ne_of_gt (blk_lt (g := gb121) (o := .cells #[.int .i64 a1_0, .int .i64 a1_1] 23 (0, 0)) (by (with_reducible repeat (first | refine bN ?_ _ | refine bD ?_ | refine bA ?_ _)); exact BK121.out)) : gb131 ≠ gb121))
            have n11_ := am ((by rw [hg]; exact Nat.ne_of_lt (blk_lt (g := gb125) (o := .cells #[.int .i64 t123, .int .i64 t124] 26 (0, 0)) (by (with_reducible repeat (first | refine bN ?_ _ | refine bD ?_ | refine bA ?_ _)); exact BK125.out)) : gb125 ≠ gb131))
            have n12_ := am ((by rw [hg]; exact Nat.ne_of_gt (blk_lt (g := gb125) (o := .cells #[.int .i64 t123, .int .i64 t124] 26 (0, 0)) (by (with_reducible repeat (first | refine bN ?_ _ | refine bD ?_ | refine bA ?_ _)); exact BK125.out)) : gb131 ≠ gb125))
            clear BK120
            clear BK121
            clear BK125
            clear HB
            have BK120 := n0_
            have BK121 := n1_
            have BK125 := n2_
            have HB := n3_
            have BK131 := n4_
            have GW131 := n5_
            have GE131 := n6_
            have NB120_131 := n7_
            have NB131_120 := n8_
            have NB121_131 := n9_
            have NB131_121 := n10_
            have NB125_131 := n11_
            have NB131_125 := n12_
            clear n0_ n1_ n2_ n3_ n4_ n5_ n6_ n7_ n8_ n9_ n10_ n11_ n12_
            clear hb hbox hg
            refine hK.out _ _ ⟨(blk_cell BK125.out 0).trans rfl, (blk_cell BK125.out 1).trans rfl, (blk_cell BK121.out 0).trans rfl, (blk_cell BK121.out 1).trans rfl⟩ (fun hHeld => ?_)
            clear hK K
            refine norm_ (a' := ?_) ?_ ?_
            rotate_left
            ·show Act.put _ (some 9) _ = _
             simp only [Act.put, zT, z0, zS, i64_w, i32_w]
             rfl
            exact norm_ (by simp only [putAll, Act.put, zT, z0, zS]) (hCont (gb131) _ ⟨hHeld, (by (with_reducible repeat (first | refine bN ?_ _ | refine bD ?_ | refine bA ?_ _)); exact BK120.out), (by (with_reducible repeat (first | refine bN ?_ _ | refine bD ?_ | refine bA ?_ _)); exact BK121.out), (by (with_reducible repeat (first | refine bN ?_ _ | refine bD ?_ | refine bA ?_ _)); exact BK125.out), (by (with_reducible repeat (first | refine bN ?_ _ | refine bD ?_ | refine bA ?_ _)); exact BK131.out), GW131.out, GE131.out, NB120_131.out, NB131_120.out, NB121_131.out, NB131_121.out, NB125_131.out, NB131_125.out, (by repeat (first | (with_reducible first | exact HB.out | apply lA | apply lN | apply lD | refine below_set ?_ GE120.out | refine below_set ?_ GE121.out | refine below_set ?_ GE125.out | refine below_set ?_ GE131.out) | exact HB.out))⟩)
           ·skip
            refine box_step ?hg (N := 9) ?hd (cs := #[.int .i64 0, .int .i64 0]) (t := 26) ?hr ?_; (case hd => rfl); (case hg => rfl); (case hr => first | (go_simp; done) | (go_simp; rfl))
            intro gb131 hg w33 hbox hb
            have n0_ := am (bB (g := gb120) (o := .cells #[.int .i64 a0_0, .int .i64 a0_1] 23 (0, 0)) (by (with_reducible repeat (first | refine bN ?_ _ | refine bD ?_ | refine bA ?_ _)); exact BK120.out) hb)
            have n1_ := am (bB (g := gb121) (o := .cells #[.int .i64 a1_0, .int .i64 a1_1] 23 (0, 0)) (by (with_reducible repeat (first | refine bN ?_ _ | refine bD ?_ | refine bA ?_ _)); exact BK121.out) hb)
            have n2_ := am (bB (g := gb125) (o := .cells #[.int .i64 t123, .int .i64 t124] 26 (0, 0)) (by (with_reducible repeat (first | refine bN ?_ _ | refine bD ?_ | refine bA ?_ _)); exact BK125.out) hb)
            have n3_ := am (below_step (by repeat (first | (with_reducible first | exact HB.out | apply lA | apply lN | apply lD | refine below_set ?_ GE120.out | refine below_set ?_ GE121.out | refine below_set ?_ GE125.out) | exact HB.out)) hb)
            have n4_ := am (hbox)
            have n5_ := am ((by rw [hg]; exact (below_size (by repeat (first | (with_reducible first | exact HB.out | apply lA | apply lN | apply lD | refine below_set ?_ GE120.out | refine below_set ?_ GE121.out | refine below_set ?_ GE125.out) | exact HB.out))) : w.heap.size ≤ gb131))
            have n6_ := n5_
            have n7_ := am ((by rw [hg]; exact Nat.ne_of_lt (blk_lt (g := gb120) (o := .cells #[.int .i64 a0_0, .int .i64 a0_1] 23 (0, 0)) (by (with_reducible repeat (first | refine bN ?_ _ | refine bD ?_ | refine bA ?_ _)); exact BK120.out)) : gb120 ≠ gb131))
            have n8_ := am ((by rw [hg]; exact Nat.ne_of_gt (blk_lt (g := gb120) (o := .cells #[.int .i64 a0_0, .int .i64 a0_1] 23 (0, 0)) (by (with_reducible repeat (first | refine bN ?_ _ | refine bD ?_ | refine bA ?_ _)); exact BK120.out)) : gb131 ≠ gb120))
            have n9_ := am ((by rw [hg]; exact Nat.ne_of_lt (blk_lt (g := gb121) (o := .cells #[.int .i64 a1_0, .int .i64 a1_1] 23 (0, 0)) (by (with_reducible repeat (first | refine bN ?_ _ | refine bD ?_ | refine bA ?_ _)); exact BK121.out)) : gb121 ≠ gb131))
            have n10_ := am ((by rw [hg]; exact Nat.ne_of_gt (blk_lt (g := gb121) (o := .cells #[.int .i64 a1_0, .int .i64 a1_1] 23 (0, 0)) (by (with_reducible repeat (first | refine bN ?_ _ | refine bD ?_ | refine bA ?_ _)); exact BK121.out)) : gb131 ≠ gb121))
            have n11_ := am ((by rw [hg]; exact Nat.ne_of_lt (blk_lt (g := gb125) (o := .cells #[.int .i64 t123, .int .i64 t124] 26 (0, 0)) (by (with_reducible repeat (first | refine bN ?_ _ | refine bD ?_ | refine bA ?_ _)); exact BK125.out)) : gb125 ≠ gb131))
            have n12_ := am ((by rw [hg]; exact Nat.ne_of_gt (blk_lt (g := gb125) (o := .cells #[.int .i64 t123, .int .i64 t124] 26 (0, 0)) (by (with_reducible repeat (first | refine bN ?_ _ | refine bD ?_ | refine bA ?_ _)); exact BK125.out)) : gb131 ≠ gb125))
            clear BK120
            clear BK121
            clear BK125
            clear HB
            have BK120 := n0_
            have BK121 := n1_
            have BK125 := n2_
            have HB := n3_
            have BK131 := n4_
            have GW131 := n5_
            have GE131 := n6_
            have NB120_131 := n7_
            have NB131_120 := n8_
            have NB121_131 := n9_
            have NB131_121 := n10_
            have NB125_131 := n11_
            have NB131_125 := n12_
            clear n0_ n1_ n2_ n3_ n4_ n5_ n6_ n7_ n8_ n9_ n10_ n11_ n12_
            clear hb hbox hg
            refine hK.out _ _ ⟨(blk_cell BK125.out 0).trans rfl, (blk_cell BK125.out 1).trans rfl, (blk_cell BK121.out 0).trans rfl, (blk_cell BK121.out 1).trans rfl⟩ (fun hHeld => ?_)
            clear hK K
            refine norm_ (a' := ?_) ?_ ?_
            rotate_left
            ·show Act.put _ (some 9) _ = _
             simp only [Act.put, zT, z0, zS, i64_w, i32_w]
             rfl
            refine one_ (i := 3) (N := some 24) #[true, true, true, true, false, false, false, true, false, false] rfl rfl (one_of HT_.out (by kernel_rfl)) (by decide) (fun K hK => ?_)
            refine goes_ Try.func14 (by kernel_rfl) rfl #[.agg #[.int .i64 t123, .int .i64 t124], .agg #[.int .i64 t126, .int .i64 t127]] (by rfl) rfl rfl (by (try simp only [List.map_toArray, List.map_cons, List.map_nil]); first | done | rfl | (simp only [List.length_drop, List.length_take]; rfl)) ?_
            with_reducible refine (budget_Budget_Pay.calls t123 t124 t126 t127 t128 t129 t130 _ A7.out).mono ?_
            rintro e w34 ⟨rfl, hb⟩
            refine ⟨_, rfl, ?_⟩
            have n0_ := am (bB (g := gb120) (o := .cells #[.int .i64 a0_0, .int .i64 a0_1] 23 (0, 0)) (by (with_reducible repeat (first | refine bN ?_ _ | refine bD ?_ | refine bA ?_ _)); exact BK120.out) hb)
            have n1_ := am (bB (g := gb121) (o := .cells #[.int .i64 a1_0, .int .i64 a1_1] 23 (0, 0)) (by (with_reducible repeat (first | refine bN ?_ _ | refine bD ?_ | refine bA ?_ _)); exact BK121.out) hb)
            have n2_ := am (bB (g := gb125) (o := .cells #[.int .i64 t123, .int .i64 t124] 26 (0, 0)) (by (with_reducible repeat (first | refine bN ?_ _ | refine bD ?_ | refine bA ?_ _)); exact BK125.out) hb)
            have n3_ := am (bB (g := gb131) (o := .cells #[.int .i64 0, .int .i64 0] 26 (0, 0)) (by (with_reducible repeat (first | refine bN ?_ _ | refine bD ?_ | refine bA ?_ _)); exact BK131.out) hb)
            have n4_ := am (below_step (by repeat (first | (with_reducible first | exact HB.out | apply lA | apply lN | apply lD | refine below_set ?_ GE120.out | refine below_set ?_ GE121.out | refine below_set ?_ GE125.out | refine below_set ?_ GE131.out) | exact HB.out)) hb)
            clear BK120
            clear BK121
            clear BK125
            clear BK131
            clear HB
            have BK120 := n0_
            have BK121 := n1_
            have BK125 := n2_
            have BK131 := n3_
            have HB := n4_
            clear n0_ n1_ n2_ n3_ n4_
            (try clear hb)
            (try clear hb2)
            (try clear hk)
            (try clear hi)
            refine hK.out _ _ ⟨(blk_cell BK125.out 0).trans rfl, (blk_cell BK125.out 1).trans rfl, (blk_cell BK121.out 0).trans rfl, (blk_cell BK121.out 1).trans rfl⟩ (fun hHeld => ?_)
            clear hK K
            refine norm_ (a' := ?_) ?_ ?_
            rotate_left
            ·show Act.put _ (some 24) _ = _
             simp only [Act.put, zT, z0, zS, i64_w, i32_w]
             rfl
            refine pure_ (i := 4) (N := some 20) (v := ?_) (a' := ?_) #[true, true, true, true, true, false, false, true, false, false] rfl rfl (any_of HT_.out (by kernel_rfl)) (fun _ _ _ h => h) (Or.inl ⟨by rfl, ?_⟩) ?_ ?_
            rotate_left
            ·intro w'
             go_simp
             with_reducible rfl
            rotate_left
            ·simp only [Act.put, zT, z0, zS, i64_w, i32_w]
             rfl
            refine pure_ (i := 5) (N := some 25) (v := ?_) (a' := ?_) #[true, true, true, true, true, true, false, true, false, false] rfl rfl (any_of HT_.out (by kernel_rfl)) (fun _ _ _ h => h) (Or.inl ⟨by rfl, ?_⟩) ?_ ?_
            rotate_left
            ·intro w'
             go_simp
             with_reducible rfl
            rotate_left
            ·simp only [Act.put, zT, z0, zS, i64_w, i32_w]
             rfl
            refine pure_ (i := 6) (N := some 26) (v := ?_) (a' := ?_) #[true, true, true, true, true, true, true, true, false, false] rfl rfl (any_of HT_.out (by kernel_rfl)) (fun _ _ _ h => h) (Or.inl ⟨by rfl, ?_⟩) ?_ ?_
            rotate_left
            ·intro w'
             go_simp
             with_reducible rfl
            rotate_left
            ·simp only [Act.put, zT, z0, zS, i64_w, i32_w]
             rfl
            exact norm_ (by simp only [putAll, Act.put, zT, z0, zS]) (hCont (gb131) _ ⟨hHeld, (by (with_reducible repeat (first | refine bN ?_ _ | refine bD ?_ | refine bA ?_ _)); exact BK120.out), (by (with_reducible repeat (first | refine bN ?_ _ | refine bD ?_ | refine bA ?_ _)); exact BK121.out), (by (with_reducible repeat (first | refine bN ?_ _ | refine bD ?_ | refine bA ?_ _)); exact BK125.out), (by (with_reducible repeat (first | refine bN ?_ _ | refine bD ?_ | refine bA ?_ _)); exact BK131.out), GW131.out, GE131.out, NB120_131.out, NB131_120.out, NB121_131.out, NB131_121.out, NB125_131.out, NB131_125.out, (by repeat (first | (with_reducible first | exact HB.out | apply lA | apply lN | apply lD | refine below_set ?_ GE120.out | refine below_set ?_ GE121.out | refine below_set ?_ GE125.out | refine below_set ?_ GE131.out) | exact HB.out))⟩)
          ·skip
           refine box_step ?hg (N := 9) ?hd (cs := #[.int .i64 0, .int .i64 0]) (t := 26) ?hr ?_; (case hd => rfl); (case hg => rfl); (case hr => first | (go_simp; done) | (go_simp; rfl))
           intro gb131 hg w32 hbox hb
           have n0_ := am (bB (g := gb120) (o := .cells #[.int .i64 a0_0, .int .i64 a0_1] 23 (0, 0)) (by (with_reducible repeat (first | refine bN ?_ _ | refine bD ?_ | refine bA ?_ _)); exact BK120.out) hb)
           have n1_ := am (bB (g := gb121) (o := .cells #[.int .i64 a1_0, .int .i64 a1_1] 23 (0, 0)) (by (with_reducible repeat (first | refine bN ?_ _ | refine bD ?_ | refine bA ?_ _)); exact BK121.out) hb)
           have n2_ := am (bB (g := gb125) (o := .cells #[.int .i64 t123, .int .i64 t124] 26 (0, 0)) (by (with_reducible repeat (first | refine bN ?_ _ | refine bD ?_ | refine bA ?_ _)); exact BK125.out) hb)
           have n3_ := am (below_step (by repeat (first | (with_reducible first | exact HB.out | apply lA | apply lN | apply lD | refine below_set ?_ GE120.out | refine below_set ?_ GE121.out | refine below_set ?_ GE125.out) | exact HB.out)) hb)
           have n4_ := am (hbox)
           have n5_ := am ((by rw [hg]; exact (below_size (by repeat (first | (with_reducible first | exact HB.out | apply lA | apply lN | apply lD | refine below_set ?_ GE120.out | refine below_set ?_ GE121.out | refine below_set ?_ GE125.out) | exact HB.out))) : w.heap.size ≤ gb131))
           have n6_ := n5_
           have n7_ := am ((by rw [hg]; exact Nat.ne_of_lt (blk_lt (g := gb120) (o := .cells #[.int .i64 a0_0, .int .i64 a0_1] 23 (0, 0)) (by (with_reducible repeat (first | refine bN ?_ _ | refine bD ?_ | refine bA ?_ _)); exact BK120.out)) : gb120 ≠ gb131))
           have n8_ := am ((by rw [hg]; exact Nat.ne_of_gt (blk_lt (g := gb120) (o := .cells #[.int .i64 a0_0, .int .i64 a0_1] 23 (0, 0)) (by (with_reducible repeat (first | refine bN ?_ _ | refine bD ?_ | refine bA ?_ _)); exact BK120.out)) : gb131 ≠ gb120))
           have n9_ := am ((by rw [hg]; exact Nat.ne_of_lt (blk_lt (g := gb121) (o := .cells #[.int .i64 a1_0, .int .i64 a1_1] 23 (0, 0)) (by (with_reducible repeat (first | refine bN ?_ _ | refine bD ?_ | refine bA ?_ _)); exact BK121.out)) : gb121 ≠ gb131))
           have n10_ := am ((by rw [hg]; exact Nat.ne_of_gt (blk_lt (g := gb121) (o := .cells #[.int .i64 a1_0, .int .i64 a1_1] 23 (0, 0)) (by (with_reducible repeat (first | refine bN ?_ _ | refine bD ?_ | refine bA ?_ _)); exact BK121.out)) : gb131 ≠ gb121))
           have n11_ := am ((by rw [hg]; exact Nat.ne_of_lt (blk_lt (g := gb125) (o := .cells #[.int .i64 t123, .int .i64 t124] 26 (0, 0)) (by (with_reducible repeat (first | refine bN ?_ _ | refine bD ?_ | refine bA ?_ _)); exact BK125.out)) : gb125 ≠ gb131))
           have n12_ := am ((by rw [hg]; exact Nat.ne_of_gt (blk_lt (g := gb125) (o := .cells #[.int .i64 t123, .int .i64 t124] 26 (0, 0)) (by (with_reducible repeat (first | refine bN ?_ _ | refine bD ?_ | refine bA ?_ _)); exact BK125.out)) : gb131 ≠ gb125))
           clear BK120
           clear BK121
           clear BK125
           clear HB
           have BK120 := n0_
           have BK121 := n1_
           have BK125 := n2_
           have HB := n3_
           have BK131 := n4_
           have GW131 := n5_
           have GE131 := n6_
           have NB120_131 := n7_
           have NB131_120 := n8_
           have NB121_131 := n9_
           have NB131_121 := n10_
           have NB125_131 := n11_
           have NB131_125 := n12_
           clear n0_ n1_ n2_ n3_ n4_ n5_ n6_ n7_ n8_ n9_ n10_ n11_ n12_
           clear hb hbox hg
           refine hK.out _ _ ⟨(blk_cell BK125.out 0).trans rfl, (blk_cell BK125.out 1).trans rfl, (blk_cell BK121.out 0).trans rfl, (blk_cell BK121.out 1).trans rfl⟩ (fun hHeld => ?_)
           clear hK K
           refine norm_ (a' := ?_) ?_ ?_
           rotate_left
           ·show Act.put _ (some 9) _ = _
            simp only [Act.put, zT, z0, zS, i64_w, i32_w]
            rfl
           refine one_ (i := 2) (N := some 23) #[true, true, true, false, false, false, false, true, false, false] rfl rfl (one_of HT_.out (by kernel_rfl)) (by decide) (fun K hK => ?_)
           refine goes_ Try.func15 (by kernel_rfl) rfl #[.agg #[.int .i64 a1_0, .int .i64 a1_1]] (by rfl) rfl rfl (by (try simp only [List.map_toArray, List.map_cons, List.map_nil]); first | done | rfl | (simp only [List.length_drop, List.length_take]; rfl)) ?_
           with_reducible refine (reredoslaw06_made.calls a1_0 a1_1 t126 t127 _ A6.out).mono ?_
           rintro e w33 ⟨rfl, hb⟩
           refine ⟨_, rfl, ?_⟩
           have n0_ := am (bB (g := gb120) (o := .cells #[.int .i64 a0_0, .int .i64 a0_1] 23 (0, 0)) (by (with_reducible repeat (first | refine bN ?_ _ | refine bD ?_ | refine bA ?_ _)); exact BK120.out) hb)
           have n1_ := am (bB (g := gb121) (o := .cells #[.int .i64 a1_0, .int .i64 a1_1] 23 (0, 0)) (by (with_reducible repeat (first | refine bN ?_ _ | refine bD ?_ | refine bA ?_ _)); exact BK121.out) hb)
           have n2_ := am (bB (g := gb125) (o := .cells #[.int .i64 t123, .int .i64 t124] 26 (0, 0)) (by (with_reducible repeat (first | refine bN ?_ _ | refine bD ?_ | refine bA ?_ _)); exact BK125.out) hb)
           have n3_ := am (bB (g := gb131) (o := .cells #[.int .i64 0, .int .i64 0] 26 (0, 0)) (by (with_reducible repeat (first | refine bN ?_ _ | refine bD ?_ | refine bA ?_ _)); exact BK131.out) hb)
           have n4_ := am (below_step (by repeat (first | (with_reducible first | exact HB.out | apply lA | apply lN | apply lD | refine below_set ?_ GE120.out | refine below_set ?_ GE121.out | refine below_set ?_ GE125.out | refine below_set ?_ GE131.out) | exact HB.out)) hb)
           clear BK120
           clear BK121
           clear BK125
           clear BK131
           clear HB
           have BK120 := n0_
           have BK121 := n1_
           have BK125 := n2_
           have BK131 := n3_
           have HB := n4_
           clear n0_ n1_ n2_ n3_ n4_
           (try clear hb)
           (try clear hb2)
           (try clear hk)
           (try clear hi)
           refine hK.out _ _ ⟨(blk_cell BK125.out 0).trans rfl, (blk_cell BK125.out 1).trans rfl, (blk_cell BK121.out 0).trans rfl, (blk_cell BK121.out 1).trans rfl⟩ (fun hHeld => ?_)
           clear hK K
           refine norm_ (a' := ?_) ?_ ?_
           rotate_left
           ·show Act.put _ (some 23) _ = _
            simp only [Act.put, zT, z0, zS, i64_w, i32_w]
            rfl
           refine one_ (i := 3) (N := some 24) #[true, true, true, true, false, false, false, true, false, false] rfl rfl (one_of HT_.out (by kernel_rfl)) (by decide) (fun K hK => ?_)
           refine goes_ Try.func14 (by kernel_rfl) rfl #[.agg #[.int .i64 t123, .int .i64 t124], .agg #[.int .i64 t126, .int .i64 t127]] (by rfl) rfl rfl (by (try simp only [List.map_toArray, List.map_cons, List.map_nil]); first | done | rfl | (simp only [List.length_drop, List.length_take]; rfl)) ?_
           with_reducible refine (budget_Budget_Pay.calls t123 t124 t126 t127 t128 t129 t130 _ A7.out).mono ?_
           rintro e w34 ⟨rfl, hb⟩
           refine ⟨_, rfl, ?_⟩
           have n0_ := am (bB (g := gb120) (o := .cells #[.int .i64 a0_0, .int .i64 a0_1] 23 (0, 0)) (by (with_reducible repeat (first | refine bN ?_ _ | refine bD ?_ | refine bA ?_ _)); exact BK120.out) hb)
           have n1_ := am (bB (g := gb121) (o := .cells #[.int .i64 a1_0, .int .i64 a1_1] 23 (0, 0)) (by (with_reducible repeat (first | refine bN ?_ _ | refine bD ?_ | refine bA ?_ _)); exact BK121.out) hb)
           have n2_ := am (bB (g := gb125) (o := .cells #[.int .i64 t123, .int .i64 t124] 26 (0, 0)) (by (with_reducible repeat (first | refine bN ?_ _ | refine bD ?_ | refine bA ?_ _)); exact BK125.out) hb)
           have n3_ := am (bB (g := gb131) (o := .cells #[.int .i64 0, .int .i64 0] 26 (0, 0)) (by (with_reducible repeat (first | refine bN ?_ _ | refine bD ?_ | refine bA ?_ _)); exact BK131.out) hb)
           have n4_ := am (below_step (by repeat (first | (with_reducible first | exact HB.out | apply lA | apply lN | apply lD | refine below_set ?_ GE120.out | refine below_set ?_ GE121.out | refine below_set ?_ GE125.out | refine below_set ?_ GE131.out) | exact HB.out)) hb)
           clear BK120
           clear BK121
           clear BK125
           clear BK131
           clear HB
           have BK120 := n0_
           have BK121 := n1_
           have BK125 := n2_
           have BK131 := n3_
           have HB := n4_
           clear n0_ n1_ n2_ n3_ n4_
           (try clear hb)
           (try clear hb2)
           (try clear hk)
           (try clear hi)
           refine hK.out _ _ ⟨(blk_cell BK125.out 0).trans rfl, (blk_cell BK125.out 1).trans rfl, (blk_cell BK121.out 0).trans rfl, (blk_cell BK121.out 1).trans rfl⟩ (fun hHeld => ?_)
           clear hK K
           refine norm_ (a' := ?_) ?_ ?_
           rotate_left
           ·show Act.put _ (some 24) _ = _
            simp only [Act.put, zT, z0, zS, i64_w, i32_w]
            rfl
           refine pure_ (i := 4) (N := some 20) (v := ?_) (a' := ?_) #[true, true, true, true, true, false, false, true, false, false] rfl rfl (any_of HT_.out (by kernel_rfl)) (fun _ _ _ h => h) (Or.inl ⟨by rfl, ?_⟩) ?_ ?_
           rotate_left
           ·intro w'
            go_simp
            with_reducible rfl
           rotate_left
           ·simp only [Act.put, zT, z0, zS, i64_w, i32_w]
            rfl
           refine pure_ (i := 5) (N := some 25) (v := ?_) (a' := ?_) #[true, true, true, true, true, true, false, true, false, false] rfl rfl (any_of HT_.out (by kernel_rfl)) (fun _ _ _ h => h) (Or.inl ⟨by rfl, ?_⟩) ?_ ?_
           rotate_left
           ·intro w'
            go_simp
            with_reducible rfl
           rotate_left
           ·simp only [Act.put, zT, z0, zS, i64_w, i32_w]
            rfl
           refine pure_ (i := 6) (N := some 26) (v := ?_) (a' := ?_) #[true, true, true, true, true, true, true, true, false, false] rfl rfl (any_of HT_.out (by kernel_rfl)) (fun _ _ _ h => h) (Or.inl ⟨by rfl, ?_⟩) ?_ ?_
           rotate_left
           ·intro w'
            go_simp
            with_reducible rfl
           rotate_left
           ·simp only [Act.put, zT, z0, zS, i64_w, i32_w]
            rfl
           exact norm_ (by simp only [putAll, Act.put, zT, z0, zS]) (hCont (gb131) _ ⟨hHeld, (by (with_reducible repeat (first | refine bN ?_ _ | refine bD ?_ | refine bA ?_ _)); exact BK120.out), (by (with_reducible repeat (first | refine bN ?_ _ | refine bD ?_ | refine bA ?_ _)); exact BK121.out), (by (with_reducible repeat (first | refine bN ?_ _ | refine bD ?_ | refine bA ?_ _)); exact BK125.out), (by (with_reducible repeat (first | refine bN ?_ _ | refine bD ?_ | refine bA ?_ _)); exact BK131.out), GW131.out, GE131.out, NB120_131.out, NB131_120.out, NB121_131.out, NB131_121.out, NB125_131.out, NB131_125.out, (by repeat (first | (with_reducible first | exact HB.out | apply lA | apply lN | apply lD | refine below_set ?_ GE120.out | refine below_set ?_ GE121.out | refine below_set ?_ GE125.out | refine below_set ?_ GE131.out) | exact HB.out))⟩)
         rintro gb131 w35 ⟨hS_, h0_, h1_, h2_, h3_, h4_, h5_, h6_, h7_, h8_, h9_, h10_, h11_, h12_⟩
         have n0_ : Aside0 (w35.heap[gb120]? = some (.cells #[.int .i64 a0_0, .int .i64 a0_1] 23 (0, 0))) := ⟨h0_⟩
         have n1_ : Aside0 (w35.heap[gb121]? = some (.cells #[.int .i64 a1_0, .int .i64 a1_1] 23 (0, 0))) := ⟨h1_⟩
         have n2_ : Aside0 (w35.heap[gb125]? = some (.cells #[.int .i64 t123, .int .i64 t124] 26 (0, 0))) := ⟨h2_⟩
         have n3_ : Aside0 (w35.heap[gb131]? = some (.cells #[.int .i64 0, .int .i64 0] 26 (0, 0))) := ⟨h3_⟩
         have n4_ : Aside0 (w.heap.size ≤ gb131) := ⟨h4_⟩
         have n5_ : Aside0 (w.heap.size ≤ gb131) := ⟨h5_⟩
         have n6_ : Aside0 (gb120 ≠ gb131) := ⟨h6_⟩
         have n7_ : Aside0 (gb131 ≠ gb120) := ⟨h7_⟩
         have n8_ : Aside0 (gb121 ≠ gb131) := ⟨h8_⟩
         have n9_ : Aside0 (gb131 ≠ gb121) := ⟨h9_⟩
         have n10_ : Aside0 (gb125 ≠ gb131) := ⟨h10_⟩
         have n11_ : Aside0 (gb131 ≠ gb125) := ⟨h11_⟩
         have n12_ : Aside0 (Below w.heap.size w w35) := ⟨h12_⟩
         clear BK120
         clear BK121
         clear BK125
         clear HB
         clear h0_ h1_ h2_ h3_ h4_ h5_ h6_ h7_ h8_ h9_ h10_ h11_ h12_
         have BK120 := n0_
         have BK121 := n1_
         have BK125 := n2_
         have BK131 := n3_
         have GW131 := n4_
         have GE131 := n5_
         have NB120_131 := n6_
         have NB131_120 := n7_
         have NB121_131 := n8_
         have NB131_121 := n9_
         have NB125_131 := n10_
         have NB131_125 := n11_
         have HB := n12_
         clear n0_ n1_ n2_ n3_ n4_ n5_ n6_ n7_ n8_ n9_ n10_ n11_ n12_
         have hHeld : w35.cell? ⟨gb125, 0, none⟩ = some (.int .i64 t123) ∧ w35.cell? ⟨gb125, 1, none⟩ = some (.int .i64 t124) ∧ w35.cell? ⟨gb121, 0, none⟩ = some (.int .i64 a1_0) ∧ w35.cell? ⟨gb121, 1, none⟩ = some (.int .i64 a1_1) := hS_
         refine norm_ (a' := ?_) ?_ ?_
         rotate_left
         ·simp only [putAll, Act.put, zT, z0, zS]
          rfl
         refine one_ (i := 8) (N := none) #[true, true, true, true, true, true, true, true, true, false] rfl rfl (one_of HT_.out (by kernel_rfl)) (by decide) (fun K hK => ?_)
         have hs36 : w35.cell? ⟨gb131, 0, none⟩ = some (.int .i64 0) := (blk_cell BK131.out 0).trans rfl
         have hfs36 := blk_frozen BK131.out 0
         have hns36_0 := NB120_131.out
         have hns36_1 := NB121_131.out
         have hns36_2 := NB125_131.out
         have hms36_0 := NB131_120.out
         have hms36_1 := NB131_121.out
         have hms36_2 := NB131_125.out
         have hs37 : w35.cell? ⟨gb131, 1, none⟩ = some (.int .i64 0) := (blk_cell BK131.out 1).trans rfl
         have hfs37 := blk_frozen BK131.out 1
         have hns37_0 := NB120_131.out
         have hns37_1 := NB121_131.out
         have hns37_2 := NB125_131.out
         have hms37_0 := NB131_120.out
         have hms37_1 := NB131_121.out
         have hms37_2 := NB131_125.out
         refine skip_ (w1 := ?_) (by rfl) rfl ?_ ?_
         rotate_left
         ·go_simp
          rfl
         refine hK.out _ _ ⟨((cell_far (p := ⟨gb131, _, none⟩) NB125_131.out _).trans (((cell_far (p := ⟨gb131, _, none⟩) NB125_131.out _).trans (hHeld.1)))), ((cell_far (p := ⟨gb131, _, none⟩) NB125_131.out _).trans (((cell_far (p := ⟨gb131, _, none⟩) NB125_131.out _).trans (hHeld.2.1)))), ((cell_far (p := ⟨gb131, _, none⟩) NB121_131.out _).trans (((cell_far (p := ⟨gb131, _, none⟩) NB121_131.out _).trans (hHeld.2.2.1)))), ((cell_far (p := ⟨gb131, _, none⟩) NB121_131.out _).trans (((cell_far (p := ⟨gb131, _, none⟩) NB121_131.out _).trans (hHeld.2.2.2))))⟩ (fun hHeld => ?_)
         clear hK K
         refine pure_ (i := 9) (N := some 10) (v := ?_) (a' := ?_) #[true, true, true, true, true, true, true, true, true, true] rfl rfl (any_of HT_.out (by kernel_rfl)) (fun _ _ _ h => h) (Or.inl ⟨by rfl, ?_⟩) ?_ ?_
         rotate_left
         ·intro w'
          go_simp
          with_reducible rfl
         rotate_left
         ·simp only [Act.put, zT, z0, zS, i64_w, i32_w]
          rfl
         refine done_ (done_of HT_.out (by kernel_rfl)) ?_
         have hnb38 := NB125_131.out
         have hnc38 := NB131_125.out
         have hcz39_0 : w35.cell? ⟨gb125, 0, none⟩ = some (.int .i64 t123) := (blk_cell BK125.out 0).trans rfl
         have hcz39_1 : w35.cell? ⟨gb125, 1, none⟩ = some (.int .i64 t124) := (blk_cell BK125.out 1).trans rfl
         have hfz39_0 := blk_frozen BK125.out 0
         have hfz39_1 := blk_frozen BK125.out 1
         try go_wp2_with (first | ((with_reducible refine gate_dst (N := 11) rfl ?_); refine box_event ?hg (N := 11) ?hd (cs := #[.int .i64 0, .int .i64 0]) (t := 26) ?hr ?_; (case hd => rfl); (case hg => rfl); (case hr => first | (go_simp; done) | (go_simp; rfl)); intro gb132 hg w40 hbox hb; have n0_ := am (bB (g := gb120) (o := .cells #[.int .i64 a0_0, .int .i64 a0_1] 23 (0, 0)) (by (with_reducible repeat (first | refine bN ?_ _ | refine bD ?_ | refine bA ?_ _)); refine blk_far ?_ NB120_131.out _; (with_reducible repeat (first | refine bN ?_ _ | refine bD ?_ | refine bA ?_ _)); refine blk_far ?_ NB120_131.out _; (with_reducible repeat (first | refine bN ?_ _ | refine bD ?_ | refine bA ?_ _)); exact BK120.out) hb); have n1_ := am (bB (g := gb121) (o := .cells #[.int .i64 a1_0, .int .i64 a1_1] 23 (0, 0)) (by (with_reducible repeat (first | refine bN ?_ _ | refine bD ?_ | refine bA ?_ _)); refine blk_far ?_ NB121_131.out _; (with_reducible repeat (first | refine bN ?_ _ | refine bD ?_ | refine bA ?_ _)); refine blk_far ?_ NB121_131.out _; (with_reducible repeat (first | refine bN ?_ _ | refine bD ?_ | refine bA ?_ _)); exact BK121.out) hb); have n2_ := am (bB (g := gb125) (o := .cells #[.int .i64 t123, .int .i64 t124] 26 (0, 0)) (by (with_reducible repeat (first | refine bN ?_ _ | refine bD ?_ | refine bA ?_ _)); refine blk_far ?_ NB125_131.out _; (with_reducible repeat (first | refine bN ?_ _ | refine bD ?_ | refine bA ?_ _)); refine blk_far ?_ NB125_131.out _; (with_reducible repeat (first | refine bN ?_ _ | refine bD ?_ | refine bA ?_ _)); exact BK125.out) hb); have n3_ := am (bB (g := gb131) (o := .cells #[.int .i64 t128, .int .i64 t129] 26 (0, 0)) (by (with_reducible repeat (first | refine bN ?_ _ | refine bD ?_ | refine bA ?_ _)); refine blk_put (cs := #[.int .i64 t128, .int .i64 0]) ?_ 1 _ rfl; (with_reducible repeat (first | refine bN ?_ _ | refine bD ?_ | refine bA ?_ _)); refine blk_put (cs := #[.int .i64 0, .int .i64 0]) ?_ 0 _ rfl; (with_reducible repeat (first | refine bN ?_ _ | refine bD ?_ | refine bA ?_ _)); exact BK131.out) hb); have n4_ := am (below_step (by repeat (first | (with_reducible first | exact HB.out | apply lA | apply lN | apply lD | refine below_set ?_ GE120.out | refine below_set ?_ GE121.out | refine below_set ?_ GE125.out | refine below_set ?_ GE131.out) | exact HB.out)) hb); have n5_ := am (hbox); have n6_ := am ((by rw [hg]; exact (below_size (by repeat (first | (with_reducible first | exact HB.out | apply lA | apply lN | apply lD | refine below_set ?_ GE120.out | refine below_set ?_ GE121.out | refine below_set ?_ GE125.out | refine below_set ?_ GE131.out) | exact HB.out))) : w.heap.size ≤ gb132)); have n7_ := n6_; have n8_ := am ((by rw [hg]; exact Nat.ne_of_lt (blk_lt (g := gb120) (o := .cells #[.int .i64 a0_0, .int .i64 a0_1] 23 (0, 0)) (by (with_reducible repeat (first | refine bN ?_ _ | refine bD ?_ | refine bA ?_ _)); refine blk_far ?_ NB120_131.out _; (with_reducible repeat (first | refine bN ?_ _ | refine bD ?_ | refine bA ?_ _)); refine blk_far ?_ NB120_131.out _; (with_reducible repeat (first | refine bN ?_ _ | refine bD ?_ | refine bA ?_ _)); exact BK120.out)) : gb120 ≠ gb132)); have n9_ := am ((by rw [hg]; exact Nat.ne_of_gt (blk_lt (g := gb120) (o := .cells #[.int .i64 a0_0, .int .i64 a0_1] 23 (0, 0)) (by (with_reducible repeat (first | refine bN ?_ _ | refine bD ?_ | refine bA ?_ _)); refine blk_far ?_ NB120_131.out _; (with_reducible repeat (first | refine bN ?_ _ | refine bD ?_ | refine bA ?_ _)); refine blk_far ?_ NB120_131.out _; (with_reducible repeat (first | refine bN ?_ _ | refine bD ?_ | refine bA ?_ _)); exact BK120.out)) : gb132 ≠ gb120)); have n10_ := am ((by rw [hg]; exact Nat.ne_of_lt (blk_lt (g := gb121) (o := .cells #[.int .i64 a1_0, .int .i64 a1_1] 23 (0, 0)) (by (with_reducible repeat (first | refine bN ?_ _ | refine bD ?_ | refine bA ?_ _)); refine blk_far ?_ NB121_131.out _; (with_reducible repeat (first | refine bN ?_ _ | refine bD ?_ | refine bA ?_ _)); refine blk_far ?_ NB121_131.out _; (with_reducible repeat (first | refine bN ?_ _ | refine bD ?_ | refine bA ?_ _)); exact BK121.out)) : gb121 ≠ gb132)); have n11_ := am ((by rw [hg]; exact Nat.ne_of_gt (blk_lt (g := gb121) (o := .cells #[.int .i64 a1_0, .int .i64 a1_1] 23 (0, 0)) (by (with_reducible repeat (first | refine bN ?_ _ | refine bD ?_ | refine bA ?_ _)); refine blk_far ?_ NB121_131.out _; (with_reducible repeat (first | refine bN ?_ _ | refine bD ?_ | refine bA ?_ _)); refine blk_far ?_ NB121_131.out _; (with_reducible repeat (first | refine bN ?_ _ | refine bD ?_ | refine bA ?_ _)); exact BK121.out)) : gb132 ≠ gb121)); have n12_ := am ((by rw [hg]; exact Nat.ne_of_lt (blk_lt (g := gb125) (o := .cells #[.int .i64 t123, .int .i64 t124] 26 (0, 0)) (by (with_reducible repeat (first | refine bN ?_ _ | refine bD ?_ | refine bA ?_ _)); refine blk_far ?_ NB125_131.out _; (with_reducible repeat (first | refine bN ?_ _ | refine bD ?_ | refine bA ?_ _)); refine blk_far ?_ NB125_131.out _; (with_reducible repeat (first | refine bN ?_ _ | refine bD ?_ | refine bA ?_ _)); exact BK125.out)) : gb125 ≠ gb132)); have n13_ := am ((by rw [hg]; exact Nat.ne_of_gt (blk_lt (g := gb125) (o := .cells #[.int .i64 t123, .int .i64 t124] 26 (0, 0)) (by (with_reducible repeat (first | refine bN ?_ _ | refine bD ?_ | refine bA ?_ _)); refine blk_far ?_ NB125_131.out _; (with_reducible repeat (first | refine bN ?_ _ | refine bD ?_ | refine bA ?_ _)); refine blk_far ?_ NB125_131.out _; (with_reducible repeat (first | refine bN ?_ _ | refine bD ?_ | refine bA ?_ _)); exact BK125.out)) : gb132 ≠ gb125)); have n14_ := am ((by rw [hg]; exact Nat.ne_of_lt (blk_lt (g := gb131) (o := .cells #[.int .i64 t128, .int .i64 t129] 26 (0, 0)) (by (with_reducible repeat (first | refine bN ?_ _ | refine bD ?_ | refine bA ?_ _)); refine blk_put (cs := #[.int .i64 t128, .int .i64 0]) ?_ 1 _ rfl; (with_reducible repeat (first | refine bN ?_ _ | refine bD ?_ | refine bA ?_ _)); refine blk_put (cs := #[.int .i64 0, .int .i64 0]) ?_ 0 _ rfl; (with_reducible repeat (first | refine bN ?_ _ | refine bD ?_ | refine bA ?_ _)); exact BK131.out)) : gb131 ≠ gb132)); have n15_ := am ((by rw [hg]; exact Nat.ne_of_gt (blk_lt (g := gb131) (o := .cells #[.int .i64 t128, .int .i64 t129] 26 (0, 0)) (by (with_reducible repeat (first | refine bN ?_ _ | refine bD ?_ | refine bA ?_ _)); refine blk_put (cs := #[.int .i64 t128, .int .i64 0]) ?_ 1 _ rfl; (with_reducible repeat (first | refine bN ?_ _ | refine bD ?_ | refine bA ?_ _)); refine blk_put (cs := #[.int .i64 0, .int .i64 0]) ?_ 0 _ rfl; (with_reducible repeat (first | refine bN ?_ _ | refine bD ?_ | refine bA ?_ _)); exact BK131.out)) : gb132 ≠ gb131)); clear BK120; clear BK121; clear BK125; clear BK131; clear HB; have BK120 := n0_; have BK121 := n1_; have BK125 := n2_; have BK131 := n3_; have HB := n4_; have BK132 := n5_; have GW132 := n6_; have GE132 := n7_; have NB120_132 := n8_; have NB132_120 := n9_; have NB121_132 := n10_; have NB132_121 := n11_; have NB125_132 := n12_; have NB132_125 := n13_; have NB131_132 := n14_; have NB132_131 := n15_; clear n0_ n1_ n2_ n3_ n4_ n5_ n6_ n7_ n8_ n9_ n10_ n11_ n12_ n13_ n14_ n15_; clear hb hbox hg; have hnb41 := NB132_120.out; have hnc41 := NB120_132.out; have hnb42 := NB132_121.out; have hnc42 := NB121_132.out; have hnb43 := NB132_125.out; have hnc43 := NB125_132.out; have hnb44 := NB132_131.out; have hnc44 := NB131_132.out; have hcz45_0 : w40.cell? ⟨gb132, 0, none⟩ = some (.int .i64 0) := (blk_cell BK132.out 0).trans rfl; have hcz45_1 : w40.cell? ⟨gb132, 1, none⟩ = some (.int .i64 0) := (blk_cell BK132.out 1).trans rfl; have hfz45_0 := blk_frozen BK132.out 0; have hfz45_1 := blk_frozen BK132.out 1))
         have n0_ : Aside0 (((w40.setCell ⟨gb132, 0, none⟩ (.int .i64 (wrap64 (t123 + (wrap64 (a2)))))).setCell ⟨gb132, 1, none⟩ (.int .i64 (wrap64 (t124 + (wrap64 (a2)))))).heap[gb120]? = some (.cells #[.int .i64 a0_0, .int .i64 a0_1] 23 (0, 0))) := ⟨by (with_reducible repeat (first | refine bN ?_ _ | refine bD ?_ | refine bA ?_ _)); refine blk_far ?_ NB120_132.out _; (with_reducible repeat (first | refine bN ?_ _ | refine bD ?_ | refine bA ?_ _)); refine blk_far ?_ NB120_132.out _; (with_reducible repeat (first | refine bN ?_ _ | refine bD ?_ | refine bA ?_ _)); exact BK120.out⟩
         have n1_ : Aside0 (((w40.setCell ⟨gb132, 0, none⟩ (.int .i64 (wrap64 (t123 + (wrap64 (a2)))))).setCell ⟨gb132, 1, none⟩ (.int .i64 (wrap64 (t124 + (wrap64 (a2)))))).heap[gb121]? = some (.cells #[.int .i64 a1_0, .int .i64 a1_1] 23 (0, 0))) := ⟨by (with_reducible repeat (first | refine bN ?_ _ | refine bD ?_ | refine bA ?_ _)); refine blk_far ?_ NB121_132.out _; (with_reducible repeat (first | refine bN ?_ _ | refine bD ?_ | refine bA ?_ _)); refine blk_far ?_ NB121_132.out _; (with_reducible repeat (first | refine bN ?_ _ | refine bD ?_ | refine bA ?_ _)); exact BK121.out⟩
         have n2_ : Aside0 (((w40.setCell ⟨gb132, 0, none⟩ (.int .i64 (wrap64 (t123 + (wrap64 (a2)))))).setCell ⟨gb132, 1, none⟩ (.int .i64 (wrap64 (t124 + (wrap64 (a2)))))).heap[gb125]? = some (.cells #[.int .i64 t123, .int .i64 t124] 26 (0, 0))) := ⟨by (with_reducible repeat (first | refine bN ?_ _ | refine bD ?_ | refine bA ?_ _)); refine blk_far ?_ NB125_132.out _; (with_reducible repeat (first | refine bN ?_ _ | refine bD ?_ | refine bA ?_ _)); refine blk_far ?_ NB125_132.out _; (with_reducible repeat (first | refine bN ?_ _ | refine bD ?_ | refine bA ?_ _)); exact BK125.out⟩
         have n3_ : Aside0 (((w40.setCell ⟨gb132, 0, none⟩ (.int .i64 (wrap64 (t123 + (wrap64 (a2)))))).setCell ⟨gb132, 1, none⟩ (.int .i64 (wrap64 (t124 + (wrap64 (a2)))))).heap[gb131]? = some (.cells #[.int .i64 t128, .int .i64 t129] 26 (0, 0))) := ⟨by (with_reducible repeat (first | refine bN ?_ _ | refine bD ?_ | refine bA ?_ _)); refine blk_far ?_ NB131_132.out _; (with_reducible repeat (first | refine bN ?_ _ | refine bD ?_ | refine bA ?_ _)); refine blk_far ?_ NB131_132.out _; (with_reducible repeat (first | refine bN ?_ _ | refine bD ?_ | refine bA ?_ _)); exact BK131.out⟩
         have n4_ : Aside0 (((w40.setCell ⟨gb132, 0, none⟩ (.int .i64 (wrap64 (t123 + (wrap64 (a2)))))).setCell ⟨gb132, 1, none⟩ (.int .i64 (wrap64 (t124 + (wrap64 (a2)))))).heap[gb132]? = some (.cells #[.int .i64 (wrap64 (t123 + (wrap64 (a2)))), .int .i64 (wrap64 (t124 + (wrap64 (a2))))] 26 (0, 0))) := ⟨by (with_reducible repeat (first | refine bN ?_ _ | refine bD ?_ | refine bA ?_ _)); refine blk_put (cs := #[.int .i64 (wrap64 (t123 + (wrap64 (a2)))), .int .i64 0]) ?_ 1 _ rfl; (with_reducible repeat (first | refine bN ?_ _ | refine bD ?_ | refine bA ?_ _)); refine blk_put (cs := #[.int .i64 0, .int .i64 0]) ?_ 0 _ rfl; (with_reducible repeat (first | refine bN ?_ _ | refine bD ?_ | refine bA ?_ _)); exact BK132.out⟩
         have n5_ : Aside0 (Below w.heap.size w ((w40.setCell ⟨gb132, 0, none⟩ (.int .i64 (wrap64 (t123 + (wrap64 (a2)))))).setCell ⟨gb132, 1, none⟩ (.int .i64 (wrap64 (t124 + (wrap64 (a2))))))) := ⟨by repeat (first | (with_reducible first | exact HB.out | apply lA | apply lN | apply lD | refine below_set ?_ GE120.out | refine below_set ?_ GE121.out | refine below_set ?_ GE125.out | refine below_set ?_ GE131.out | refine below_set ?_ GE132.out) | exact HB.out)⟩
         (try clear BK120)
         (try clear BK121)
         (try clear BK125)
         (try clear BK131)
         (try clear BK132)
         (try clear HB)
         generalize ((w40.setCell ⟨gb132, 0, none⟩ (.int .i64 (wrap64 (t123 + (wrap64 (a2)))))).setCell ⟨gb132, 1, none⟩ (.int .i64 (wrap64 (t124 + (wrap64 (a2)))))) = w46 at n0_ n1_ n2_ n3_ n4_ n5_ ⊢
         have BK120 := n0_
         have BK121 := n1_
         have BK125 := n2_
         have BK131 := n3_
         have BK132 := n4_
         have HB := n5_
         clear n0_ n1_ n2_ n3_ n4_ n5_
         have n0_ := am (bD BK120.out)
         have n1_ := am (bD BK121.out)
         have n2_ := am (bD BK125.out)
         have n3_ := am (bD BK131.out)
         have n4_ := am (bD BK132.out)
         have n5_ := am (lD HB.out)
         clear BK120
         clear BK121
         clear BK125
         clear BK131
         clear BK132
         clear HB
         have BK120 := n0_
         have BK121 := n1_
         have BK125 := n2_
         have BK131 := n3_
         have BK132 := n4_
         have HB := n5_
         clear n0_ n1_ n2_ n3_ n4_ n5_
         refine start_ (n := 10) (S := fun w' => w'.cell? ⟨gb132, 0, none⟩ = some (.int .i64 (wrap64 (t123 + (wrap64 (a2))))) ∧ w'.cell? ⟨gb132, 1, none⟩ = some (.int .i64 (wrap64 (t124 + (wrap64 (a2))))) ∧ w'.cell? ⟨gb121, 0, none⟩ = some (.int .i64 a1_0) ∧ w'.cell? ⟨gb121, 1, none⟩ = some (.int .i64 a1_1)) (ds := []) #[false, false, false, false, false, false, false, false, false, false] (by kernel_rfl) rfl rfl ⟨(blk_cell BK132.out 0).trans rfl, (blk_cell BK132.out 1).trans rfl, (blk_cell BK121.out 0).trans rfl, (blk_cell BK121.out 1).trans rfl⟩ (fun hHeld => ?_); refine with_tabW reredoslaw06_BudgetNever.tab7 reredoslaw06_BudgetNever.bits7 (fun HT_ HW_ => ?_)
         generalize w46.drew = w47 at BK120 BK121 BK125 BK131 BK132 HB hHeld ⊢
         refine take_ (i := 0) (N := some 60) (v := ?_) (a' := ?_) #[true, false, false, false, false, false, false, false, false, false] rfl rfl (take_ofW HT_.out HW_.out (by kernel_rfl)) (fun _ _ _ h => h) (Or.inl ⟨by rfl, ?_⟩) hHeld ?_ ?_
         rotate_left
         ·rintro w' ⟨s0, s1, s2, s3⟩
          go_simp
          with_reducible rfl
         rotate_left
         ·simp only [Act.put, zT, z0, zS, i64_w, i32_w]
          rfl
         refine take_ (i := 1) (N := some 61) (v := ?_) (a' := ?_) #[true, true, false, false, false, false, false, false, false, false] rfl rfl (take_ofW HT_.out HW_.out (by kernel_rfl)) (fun _ _ _ h => h) (Or.inl ⟨by rfl, ?_⟩) hHeld ?_ ?_
         rotate_left
         ·rintro w' ⟨s0, s1, s2, s3⟩
          go_simp
          with_reducible rfl
         rotate_left
         ·simp only [Act.put, zT, z0, zS, i64_w, i32_w]
          rfl
         refine join_ (σ := Nat) 2 #[true, true, true, true, true, true, true, true, false, false] (fun s_ => [(62, .agg #[.int .i64 t133, .int .i64 t134]), (63, .tuple #[.agg #[.int .i64 t135, .int .i64 t136], .int .i64 t137]), (12, .pointer (some ⟨s_, 0, none⟩)), (59, .tuple #[.agg #[.int .i64 t135, .int .i64 t136], .int .i64 t137]), (64, .agg #[.int .i64 t135, .int .i64 t136]), (65, .int .i64 t137)]) (fun s_ w' => (w'.cell? ⟨gb132, 0, none⟩ = some (.int .i64 (wrap64 (t123 + (wrap64 (a2))))) ∧ w'.cell? ⟨gb132, 1, none⟩ = some (.int .i64 (wrap64 (t124 + (wrap64 (a2))))) ∧ w'.cell? ⟨gb121, 0, none⟩ = some (.int .i64 a1_0) ∧ w'.cell? ⟨gb121, 1, none⟩ = some (.int .i64 a1_1)) ∧ (w'.heap[gb120]? = some (.cells #[.int .i64 a0_0, .int .i64 a0_1] 23 (0, 0))) ∧ (w'.heap[gb121]? = some (.cells #[.int .i64 a1_0, .int .i64 a1_1] 23 (0, 0))) ∧ (w'.heap[gb125]? = some (.cells #[.int .i64 t123, .int .i64 t124] 26 (0, 0))) ∧ (w'.heap[gb131]? = some (.cells #[.int .i64 t128, .int .i64 t129] 26 (0, 0))) ∧ (w'.heap[gb132]? = some (.cells #[.int .i64 (wrap64 (t123 + (wrap64 (a2)))), .int .i64 (wrap64 (t124 + (wrap64 (a2))))] 26 (0, 0))) ∧ (w'.heap[s_]? = some (.cells #[.int .i64 0, .int .i64 0] 26 (0, 0))) ∧ (w.heap.size ≤ s_) ∧ (w.heap.size ≤ s_) ∧ (gb120 ≠ s_) ∧ (s_ ≠ gb120) ∧ (gb121 ≠ s_) ∧ (s_ ≠ gb121) ∧ (gb125 ≠ s_) ∧ (s_ ≠ gb125) ∧ (gb131 ≠ s_) ∧ (s_ ≠ gb131) ∧ (gb132 ≠ s_) ∧ (s_ ≠ gb132) ∧ (Below w.heap.size w w')) ?_ ?_
         rotate_left
         ·intro hCont
          refine two_ (i := 2) (j := 7) (Ni := some 62) (Nj := some 12) #[true, true, true, false, false, false, false, false, false, false] #[true, true, false, false, false, false, false, true, false, false] rfl rfl rfl rfl (two_of HT_.out (by kernel_rfl)) (by decide) (by decide) (fun K hK => ?_) (fun K hK => ?_)
          ·skip
           refine goes_ Try.func15 (by kernel_rfl) rfl #[.agg #[.int .i64 a1_0, .int .i64 a1_1]] (by rfl) rfl rfl (by (try simp only [List.map_toArray, List.map_cons, List.map_nil]); first | done | rfl | (simp only [List.length_drop, List.length_take]; rfl)) ?_
           with_reducible refine (reredoslaw06_made.calls a1_0 a1_1 t133 t134 _ A9.out).mono ?_
           rintro e w48 ⟨rfl, hb⟩
           refine ⟨_, rfl, ?_⟩
           have n0_ := am (bB (g := gb120) (o := .cells #[.int .i64 a0_0, .int .i64 a0_1] 23 (0, 0)) (by (with_reducible repeat (first | refine bN ?_ _ | refine bD ?_ | refine bA ?_ _)); exact BK120.out) hb)
           have n1_ := am (bB (g := gb121) (o := .cells #[.int .i64 a1_0, .int .i64 a1_1] 23 (0, 0)) (by (with_reducible repeat (first | refine bN ?_ _ | refine bD ?_ | refine bA ?_ _)); exact BK121.out) hb)
           have n2_ := am (bB (g := gb125) (o := .cells #[.int .i64 t123, .int .i64 t124] 26 (0, 0)) (by (with_reducible repeat (first | refine bN ?_ _ | refine bD ?_ | refine bA ?_ _)); exact BK125.out) hb)
           have n3_ := am (bB (g := gb131) (o := .cells #[.int .i64 t128, .int .i64 t129] 26 (0, 0)) (by (with_reducible repeat (first | refine bN ?_ _ | refine bD ?_ | refine bA ?_ _)); exact BK131.out) hb)
           have n4_ := am (bB (g := gb132) (o := .cells #[.int .i64 (wrap64 (t123 + (wrap64 (a2)))), .int .i64 (wrap64 (t124 + (wrap64 (a2))))] 26 (0, 0)) (by (with_reducible repeat (first | refine bN ?_ _ | refine bD ?_ | refine bA ?_ _)); exact BK132.out) hb)
           have n5_ := am (below_step (by repeat (first | (with_reducible first | exact HB.out | apply lA | apply lN | apply lD | refine below_set ?_ GE120.out | refine below_set ?_ GE121.out | refine below_set ?_ GE125.out | refine below_set ?_ GE131.out | refine below_set ?_ GE132.out) | exact HB.out)) hb)
           clear BK120
           clear BK121
           clear BK125
           clear BK131
           clear BK132
           clear HB
           have BK120 := n0_
           have BK121 := n1_
           have BK125 := n2_
           have BK131 := n3_
           have BK132 := n4_
           have HB := n5_
           clear n0_ n1_ n2_ n3_ n4_ n5_
           (try clear hb)
           (try clear hb2)
           (try clear hk)
           (try clear hi)
           refine hK.out _ _ ⟨(blk_cell BK132.out 0).trans rfl, (blk_cell BK132.out 1).trans rfl, (blk_cell BK121.out 0).trans rfl, (blk_cell BK121.out 1).trans rfl⟩ (fun hHeld => ?_)
           clear hK K
           refine norm_ (a' := ?_) ?_ ?_
           rotate_left
           ·show Act.put _ (some 62) _ = _
            simp only [Act.put, zT, z0, zS, i64_w, i32_w]
            rfl
           refine two_ (i := 3) (j := 7) (Ni := some 63) (Nj := some 12) #[true, true, true, true, false, false, false, false, false, false] #[true, true, true, false, false, false, false, true, false, false] rfl rfl rfl rfl (two_of HT_.out (by kernel_rfl)) (by decide) (by decide) (fun K hK => ?_) (fun K hK => ?_)
           ·skip
            refine goes_ Try.func14 (by kernel_rfl) rfl #[.agg #[.int .i64 (wrap64 (t123 + (wrap64 (a2)))), .int .i64 (wrap64 (t124 + (wrap64 (a2))))], .agg #[.int .i64 t133, .int .i64 t134]] (by rfl) rfl rfl (by (try simp only [List.map_toArray, List.map_cons, List.map_nil]); first | done | rfl | (simp only [List.length_drop, List.length_take]; rfl)) ?_
            with_reducible refine (budget_Budget_Pay.calls (wrap64 (t123 + (wrap64 (a2)))) (wrap64 (t124 + (wrap64 (a2)))) t133 t134 t135 t136 t137 _ A10.out).mono ?_
            rintro e w49 ⟨rfl, hb⟩
            refine ⟨_, rfl, ?_⟩
            have n0_ := am (bB (g := gb120) (o := .cells #[.int .i64 a0_0, .int .i64 a0_1] 23 (0, 0)) (by (with_reducible repeat (first | refine bN ?_ _ | refine bD ?_ | refine bA ?_ _)); exact BK120.out) hb)
            have n1_ := am (bB (g := gb121) (o := .cells #[.int .i64 a1_0, .int .i64 a1_1] 23 (0, 0)) (by (with_reducible repeat (first | refine bN ?_ _ | refine bD ?_ | refine bA ?_ _)); exact BK121.out) hb)
            have n2_ := am (bB (g := gb125) (o := .cells #[.int .i64 t123, .int .i64 t124] 26 (0, 0)) (by (with_reducible repeat (first | refine bN ?_ _ | refine bD ?_ | refine bA ?_ _)); exact BK125.out) hb)
            have n3_ := am (bB (g := gb131) (o := .cells #[.int .i64 t128, .int .i64 t129] 26 (0, 0)) (by (with_reducible repeat (first | refine bN ?_ _ | refine bD ?_ | refine bA ?_ _)); exact BK131.out) hb)
            have n4_ := am (bB (g := gb132) (o := .cells #[.int .i64 (wrap64 (t123 + (wrap64 (a2)))), .int .i64 (wrap64 (t124 + (wrap64 (a2))))] 26 (0, 0)) (by (with_reducible repeat (first | refine bN ?_ _ | refine bD ?_ | refine bA ?_ _)); exact BK132.out) hb)
            have n5_ := am (below_step (by repeat (first | (with_reducible first | exact HB.out | apply lA | apply lN | apply lD | refine below_set ?_ GE120.out | refine below_set ?_ GE121.out | refine below_set ?_ GE125.out | refine below_set ?_ GE131.out | refine below_set ?_ GE132.out) | exact HB.out)) hb)
            clear BK120
            clear BK121
            clear BK125
            clear BK131
            clear BK132
            clear HB
            have BK120 := n0_
            have BK121 := n1_
            have BK125 := n2_
            have BK131 := n3_
            have BK132 := n4_
            have HB := n5_
            clear n0_ n1_ n2_ n3_ n4_ n5_
            (try clear hb)
            (try clear hb2)
            (try clear hk)
            (try clear hi)
            refine hK.out _ _ ⟨(blk_cell BK132.out 0).trans rfl, (blk_cell BK132.out 1).trans rfl, (blk_cell BK121.out 0).trans rfl, (blk_cell BK121.out 1).trans rfl⟩ (fun hHeld => ?_)
            clear hK K
            refine norm_ (a' := ?_) ?_ ?_
            rotate_left
            ·show Act.put _ (some 63) _ = _
             simp only [Act.put, zT, z0, zS, i64_w, i32_w]
             rfl
            refine pure_ (i := 4) (N := some 59) (v := ?_) (a' := ?_) #[true, true, true, true, true, false, false, false, false, false] rfl rfl (any_of HT_.out (by kernel_rfl)) (fun _ _ _ h => h) (Or.inl ⟨by rfl, ?_⟩) ?_ ?_
            rotate_left
            ·intro w'
             go_simp
             with_reducible rfl
            rotate_left
            ·simp only [Act.put, zT, z0, zS, i64_w, i32_w]
             rfl
            refine pure_ (i := 5) (N := some 64) (v := ?_) (a' := ?_) #[true, true, true, true, true, true, false, false, false, false] rfl rfl (any_of HT_.out (by kernel_rfl)) (fun _ _ _ h => h) (Or.inl ⟨by rfl, ?_⟩) ?_ ?_
            rotate_left
            ·intro w'
             go_simp
             with_reducible rfl
            rotate_left
            ·simp only [Act.put, zT, z0, zS, i64_w, i32_w]
             rfl
            refine pure_ (i := 6) (N := some 65) (v := ?_) (a' := ?_) #[true, true, true, true, true, true, true, false, false, false] rfl rfl (any_of HT_.out (by kernel_rfl)) (fun _ _ _ h => h) (Or.inl ⟨by rfl, ?_⟩) ?_ ?_
            rotate_left
            ·intro w'
             go_simp
             with_reducible rfl
            rotate_left
            ·simp only [Act.put, zT, z0, zS, i64_w, i32_w]
             rfl
            refine one_ (i := 7) (N := some 12) #[true, true, true, true, true, true, true, true, false, false] rfl rfl (one_of HT_.out (by kernel_rfl)) (by decide) (fun K hK => ?_)
            refine box_step ?hg (N := 12) ?hd (cs := #[.int .i64 0, .int .i64 0]) (t := 26) ?hr ?_; (case hd => rfl); (case hg => rfl); (case hr => first | (go_simp; done) | (go_simp; rfl))
            intro gb138 hg w50 hbox hb
            have n0_ := am (bB (g := gb120) (o := .cells #[.int .i64 a0_0, .int .i64 a0_1] 23 (0, 0)) (by (with_reducible repeat (first | refine bN ?_ _ | refine bD ?_ | refine bA ?_ _)); exact BK120.out) hb)
            have n1_ := am (bB (g := gb121) (o := .cells #[.int .i64 a1_0, .int .i64 a1_1] 23 (0, 0)) (by (with_reducible repeat (first | refine bN ?_ _ | refine bD ?_ | refine bA ?_ _)); exact BK121.out) hb)
            have n2_ := am (bB (g := gb125) (o := .cells #[.int .i64 t123, .int .i64 t124] 26 (0, 0)) (by (with_reducible repeat (first | refine bN ?_ _ | refine bD ?_ | refine bA ?_ _)); exact BK125.out) hb)
            have n3_ := am (bB (g := gb131) (o := .cells #[.int .i64 t128, .int .i64 t129] 26 (0, 0)) (by (with_reducible repeat (first | refine bN ?_ _ | refine bD ?_ | refine bA ?_ _)); exact BK131.out) hb)
            have n4_ := am (bB (g := gb132) (o := .cells #[.int .i64 (wrap64 (t123 + (wrap64 (a2)))), .int .i64 (wrap64 (t124 + (wrap64 (a2))))] 26 (0, 0)) (by (with_reducible repeat (first | refine bN ?_ _ | refine bD ?_ | refine bA ?_ _)); exact BK132.out) hb)
            have n5_ := am (below_step (by repeat (first | (with_reducible first | exact HB.out | apply lA | apply lN | apply lD | refine below_set ?_ GE120.out | refine below_set ?_ GE121.out | refine below_set ?_ GE125.out | refine below_set ?_ GE131.out | refine below_set ?_ GE132.out) | exact HB.out)) hb)
            have n6_ := am (hbox)
            have n7_ := am ((by rw [hg]; exact (below_size (by repeat (first | (with_reducible first | exact HB.out | apply lA | apply lN | apply lD | refine below_set ?_ GE120.out | refine below_set ?_ GE121.out | refine below_set ?_ GE125.out | refine below_set ?_ GE131.out | refine below_set ?_ GE132.out) | exact HB.out))) : w.heap.size ≤ gb138))
            have n8_ := n7_
            have n9_ := am ((by rw [hg]; exact Nat.ne_of_lt (blk_lt (g := gb120) (o := .cells #[.int .i64 a0_0, .int .i64 a0_1] 23 (0, 0)) (by (with_reducible repeat (first | refine bN ?_ _ | refine bD ?_ | refine bA ?_ _)); exact BK120.out)) : gb120 ≠ gb138))
            have n10_ := am ((by rw [hg]; exact Nat.ne_of_gt (blk_lt (g := gb120) (o := .cells #[.int .i64 a0_0, .int .i64 a0_1] 23 (0, 0)) (by (with_reducible repeat (first | refine bN ?_ _ | refine bD ?_ | refine bA ?_ _)); exact BK120.out)) : gb138 ≠ gb120))
            have n11_ := am ((by rw [hg]; exact Nat.ne_of_lt (blk_lt (g := gb121) (o := .cells #[.int .i64 a1_0, .int .i64 a1_1] 23 (0, 0)) (by (with_reducible repeat (first | refine bN ?_ _ | refine bD ?_ | refine bA ?_ _)); exact BK121.out)) : gb121 ≠ gb138))
            have n12_ := am ((by rw [hg]; exact Nat.ne_of_gt (blk_lt (g := gb121) (o := .cells #[.int .i64 a1_0, .int .i64 a1_1] 23 (0, 0)) (by (with_reducible repeat (first | refine bN ?_ _ | refine bD ?_ | refine bA ?_ _)); exact BK121.out)) : gb138 ≠ gb121))
            have n13_ := am ((by rw [hg]; exact Nat.ne_of_lt (blk_lt (g := gb125) (o := .cells #[.int .i64 t123, .int .i64 t124] 26 (0, 0)) (by (with_reducible repeat (first | refine bN ?_ _ | refine bD ?_ | refine bA ?_ _)); exact BK125.out)) : gb125 ≠ gb138))
            have n14_ := am ((by rw [hg]; exact Nat.ne_of_gt (blk_lt (g := gb125) (o := .cells #[.int .i64 t123, .int .i64 t124] 26 (0, 0)) (by (with_reducible repeat (first | refine bN ?_ _ | refine bD ?_ | refine bA ?_ _)); exact BK125.out)) : gb138 ≠ gb125))
            have n15_ := am ((by rw [hg]; exact Nat.ne_of_lt (blk_lt (g := gb131) (o := .cells #[.int .i64 t128, .int .i64 t129] 26 (0, 0)) (by (with_reducible repeat (first | refine bN ?_ _ | refine bD ?_ | refine bA ?_ _)); exact BK131.out)) : gb131 ≠ gb138))
            have n16_ := am ((by rw [hg]; exact Nat.ne_of_gt (blk_lt (g := gb131) (o := .cells #[.int .i64 t128, .int .i64 t129] 26 (0, 0)) (by (with_reducible repeat (first | refine bN ?_ _ | refine bD ?_ | refine bA ?_ _)); exact BK131.out)) : gb138 ≠ gb131))
            have n17_ := am ((by rw [hg]; exact Nat.ne_of_lt (blk_lt (g := gb132) (o := .cells #[.int .i64 (wrap64 (t123 + (wrap64 (a2)))), .int .i64 (wrap64 (t124 + (wrap64 (a2))))] 26 (0, 0)) (by (with_reducible repeat (first | refine bN ?_ _ | refine bD ?_ | refine bA ?_ _)); exact BK132.out)) : gb132 ≠ gb138))
            have n18_ := am ((by rw [hg]; exact Nat.ne_of_gt (blk_lt (g := gb132) (o := .cells #[.int .i64 (wrap64 (t123 + (wrap64 (a2)))), .int .i64 (wrap64 (t124 + (wrap64 (a2))))] 26 (0, 0)) (by (with_reducible repeat (first | refine bN ?_ _ | refine bD ?_ | refine bA ?_ _)); exact BK132.out)) : gb138 ≠ gb132))
            clear BK120
            clear BK121
            clear BK125
            clear BK131
            clear BK132
            clear HB
            have BK120 := n0_
            have BK121 := n1_
            have BK125 := n2_
            have BK131 := n3_
            have BK132 := n4_
            have HB := n5_
            have BK138 := n6_
            have GW138 := n7_
            have GE138 := n8_
            have NB120_138 := n9_
            have NB138_120 := n10_
            have NB121_138 := n11_
            have NB138_121 := n12_
            have NB125_138 := n13_
            have NB138_125 := n14_
            have NB131_138 := n15_
            have NB138_131 := n16_
            have NB132_138 := n17_
            have NB138_132 := n18_
            clear n0_ n1_ n2_ n3_ n4_ n5_ n6_ n7_ n8_ n9_ n10_ n11_ n12_ n13_ n14_ n15_ n16_ n17_ n18_
            clear hb hbox hg
            refine hK.out _ _ ⟨(blk_cell BK132.out 0).trans rfl, (blk_cell BK132.out 1).trans rfl, (blk_cell BK121.out 0).trans rfl, (blk_cell BK121.out 1).trans rfl⟩ (fun hHeld => ?_)
            clear hK K
            refine norm_ (a' := ?_) ?_ ?_
            rotate_left
            ·show Act.put _ (some 12) _ = _
             simp only [Act.put, zT, z0, zS, i64_w, i32_w]
             rfl
            exact norm_ (by simp only [putAll, Act.put, zT, z0, zS]) (hCont (gb138) _ ⟨hHeld, (by (with_reducible repeat (first | refine bN ?_ _ | refine bD ?_ | refine bA ?_ _)); exact BK120.out), (by (with_reducible repeat (first | refine bN ?_ _ | refine bD ?_ | refine bA ?_ _)); exact BK121.out), (by (with_reducible repeat (first | refine bN ?_ _ | refine bD ?_ | refine bA ?_ _)); exact BK125.out), (by (with_reducible repeat (first | refine bN ?_ _ | refine bD ?_ | refine bA ?_ _)); exact BK131.out), (by (with_reducible repeat (first | refine bN ?_ _ | refine bD ?_ | refine bA ?_ _)); exact BK132.out), (by (with_reducible repeat (first | refine bN ?_ _ | refine bD ?_ | refine bA ?_ _)); exact BK138.out), GW138.out, GE138.out, NB120_138.out, NB138_120.out, NB121_138.out, NB138_121.out, NB125_138.out, NB138_125.out, NB131_138.out, NB138_131.out, NB132_138.out, NB138_132.out, (by repeat (first | (with_reducible first | exact HB.out | apply lA | apply lN | apply lD | refine below_set ?_ GE120.out | refine below_set ?_ GE121.out | refine below_set ?_ GE125.out | refine below_set ?_ GE131.out | refine below_set ?_ GE132.out | refine below_set ?_ GE138.out) | exact HB.out))⟩)
           ·skip
            refine box_step ?hg (N := 12) ?hd (cs := #[.int .i64 0, .int .i64 0]) (t := 26) ?hr ?_; (case hd => rfl); (case hg => rfl); (case hr => first | (go_simp; done) | (go_simp; rfl))
            intro gb138 hg w49 hbox hb
            have n0_ := am (bB (g := gb120) (o := .cells #[.int .i64 a0_0, .int .i64 a0_1] 23 (0, 0)) (by (with_reducible repeat (first | refine bN ?_ _ | refine bD ?_ | refine bA ?_ _)); exact BK120.out) hb)
            have n1_ := am (bB (g := gb121) (o := .cells #[.int .i64 a1_0, .int .i64 a1_1] 23 (0, 0)) (by (with_reducible repeat (first | refine bN ?_ _ | refine bD ?_ | refine bA ?_ _)); exact BK121.out) hb)
            have n2_ := am (bB (g := gb125) (o := .cells #[.int .i64 t123, .int .i64 t124] 26 (0, 0)) (by (with_reducible repeat (first | refine bN ?_ _ | refine bD ?_ | refine bA ?_ _)); exact BK125.out) hb)
            have n3_ := am (bB (g := gb131) (o := .cells #[.int .i64 t128, .int .i64 t129] 26 (0, 0)) (by (with_reducible repeat (first | refine bN ?_ _ | refine bD ?_ | refine bA ?_ _)); exact BK131.out) hb)
            have n4_ := am (bB (g := gb132) (o := .cells #[.int .i64 (wrap64 (t123 + (wrap64 (a2)))), .int .i64 (wrap64 (t124 + (wrap64 (a2))))] 26 (0, 0)) (by (with_reducible repeat (first | refine bN ?_ _ | refine bD ?_ | refine bA ?_ _)); exact BK132.out) hb)
            have n5_ := am (below_step (by repeat (first | (with_reducible first | exact HB.out | apply lA | apply lN | apply lD | refine below_set ?_ GE120.out | refine below_set ?_ GE121.out | refine below_set ?_ GE125.out | refine below_set ?_ GE131.out | refine below_set ?_ GE132.out) | exact HB.out)) hb)
            have n6_ := am (hbox)
            have n7_ := am ((by rw [hg]; exact (below_size (by repeat (first | (with_reducible first | exact HB.out | apply lA | apply lN | apply lD | refine below_set ?_ GE120.out | refine below_set ?_ GE121.out | refine below_set ?_ GE125.out | refine below_set ?_ GE131.out | refine below_set ?_ GE132.out) | exact HB.out))) : w.heap.size ≤ gb138))
            have n8_ := n7_
            have n9_ := am ((by rw [hg]; exact Nat.ne_of_lt (blk_lt (g := gb120) (o := .cells #[.int .i64 a0_0, .int .i64 a0_1] 23 (0, 0)) (by (with_reducible repeat (first | refine bN ?_ _ | refine bD ?_ | refine bA ?_ _)); exact BK120.out)) : gb120 ≠ gb138))
            have n10_ := am ((by rw [hg]; exact Nat.ne_of_gt (blk_lt (g := gb120) (o := .cells #[.int .i64 a0_0, .int .i64 a0_1] 23 (0, 0)) (by (with_reducible repeat (first | refine bN ?_ _ | refine bD ?_ | refine bA ?_ _)); exact BK120.out)) : gb138 ≠ gb120))
            have n11_ := am ((by rw [hg]; exact Nat.ne_of_lt (blk_lt (g := gb121) (o := .cells #[.int .i64 a1_0, .int .i64 a1_1] 23 (0, 0)) (by (with_reducible repeat (first | refine bN ?_ _ | refine bD ?_ | refine bA ?_ _)); exact BK121.out)) : gb121 ≠ gb138))
            have n12_ := am ((by rw [hg]; exact Nat.ne_of_gt (blk_lt (g := gb121) (o := .cells #[.int .i64 a1_0, .int .i64 a1_1] 23 (0, 0)) (by (with_reducible repeat (first | refine bN ?_ _ | refine bD ?_ | refine bA ?_ _)); exact BK121.out)) : gb138 ≠ gb121))
            have n13_ := am ((by rw [hg]; exact Nat.ne_of_lt (blk_lt (g := gb125) (o := .cells #[.int .i64 t123, .int .i64 t124] 26 (0, 0)) (by (with_reducible repeat (first | refine bN ?_ _ | refine bD ?_ | refine bA ?_ _)); exact BK125.out)) : gb125 ≠ gb138))
            have n14_ := am ((by rw [hg]; exact Nat.ne_of_gt (blk_lt (g := gb125) (o := .cells #[.int .i64 t123, .int .i64 t124] 26 (0, 0)) (by (with_reducible repeat (first | refine bN ?_ _ | refine bD ?_ | refine bA ?_ _)); exact BK125.out)) : gb138 ≠ gb125))
            have n15_ := am ((by rw [hg]; exact Nat.ne_of_lt (blk_lt (g := gb131) (o := .cells #[.int .i64 t128, .int .i64 t129] 26 (0, 0)) (by (with_reducible repeat (first | refine bN ?_ _ | refine bD ?_ | refine bA ?_ _)); exact BK131.out)) : gb131 ≠ gb138))
            have n16_ := am ((by rw [hg]; exact Nat.ne_of_gt (blk_lt (g := gb131) (o := .cells #[.int .i64 t128, .int .i64 t129] 26 (0, 0)) (by (with_reducible repeat (first | refine bN ?_ _ | refine bD ?_ | refine bA ?_ _)); exact BK131.out)) : gb138 ≠ gb131))
            have n17_ := am ((by rw [hg]; exact Nat.ne_of_lt (blk_lt (g := gb132) (o := .cells #[.int .i64 (wrap64 (t123 + (wrap64 (a2)))), .int .i64 (wrap64 (t124 + (wrap64 (a2))))] 26 (0, 0)) (by (with_reducible repeat (first | refine bN ?_ _ | refine bD ?_ | refine bA ?_ _)); exact BK132.out)) : gb132 ≠ gb138))
            have n18_ := am ((by rw [hg]; exact Nat.ne_of_gt (blk_lt (g := gb132) (o := .cells #[.int .i64 (wrap64 (t123 + (wrap64 (a2)))), .int .i64 (wrap64 (t124 + (wrap64 (a2))))] 26 (0, 0)) (by (with_reducible repeat (first | refine bN ?_ _ | refine bD ?_ | refine bA ?_ _)); exact BK132.out)) : gb138 ≠ gb132))
            clear BK120
            clear BK121
            clear BK125
            clear BK131
            clear BK132
            clear HB
            have BK120 := n0_
            have BK121 := n1_
            have BK125 := n2_
            have BK131 := n3_
            have BK132 := n4_
            have HB := n5_
            have BK138 := n6_
            have GW138 := n7_
            have GE138 := n8_
            have NB120_138 := n9_
            have NB138_120 := n10_
            have NB121_138 := n11_
            have NB138_121 := n12_
            have NB125_138 := n13_
            have NB138_125 := n14_
            have NB131_138 := n15_
            have NB138_131 := n16_
            have NB132_138 := n17_
            have NB138_132 := n18_
            clear n0_ n1_ n2_ n3_ n4_ n5_ n6_ n7_ n8_ n9_ n10_ n11_ n12_ n13_ n14_ n15_ n16_ n17_ n18_
            clear hb hbox hg
            refine hK.out _ _ ⟨(blk_cell BK132.out 0).trans rfl, (blk_cell BK132.out 1).trans rfl, (blk_cell BK121.out 0).trans rfl, (blk_cell BK121.out 1).trans rfl⟩ (fun hHeld => ?_)
            clear hK K
            refine norm_ (a' := ?_) ?_ ?_
            rotate_left
            ·show Act.put _ (some 12) _ = _
             simp only [Act.put, zT, z0, zS, i64_w, i32_w]
             rfl
            refine one_ (i := 3) (N := some 63) #[true, true, true, true, false, false, false, true, false, false] rfl rfl (one_of HT_.out (by kernel_rfl)) (by decide) (fun K hK => ?_)
            refine goes_ Try.func14 (by kernel_rfl) rfl #[.agg #[.int .i64 (wrap64 (t123 + (wrap64 (a2)))), .int .i64 (wrap64 (t124 + (wrap64 (a2))))], .agg #[.int .i64 t133, .int .i64 t134]] (by rfl) rfl rfl (by (try simp only [List.map_toArray, List.map_cons, List.map_nil]); first | done | rfl | (simp only [List.length_drop, List.length_take]; rfl)) ?_
            with_reducible refine (budget_Budget_Pay.calls (wrap64 (t123 + (wrap64 (a2)))) (wrap64 (t124 + (wrap64 (a2)))) t133 t134 t135 t136 t137 _ A10.out).mono ?_
            rintro e w50 ⟨rfl, hb⟩
            refine ⟨_, rfl, ?_⟩
            have n0_ := am (bB (g := gb120) (o := .cells #[.int .i64 a0_0, .int .i64 a0_1] 23 (0, 0)) (by (with_reducible repeat (first | refine bN ?_ _ | refine bD ?_ | refine bA ?_ _)); exact BK120.out) hb)
            have n1_ := am (bB (g := gb121) (o := .cells #[.int .i64 a1_0, .int .i64 a1_1] 23 (0, 0)) (by (with_reducible repeat (first | refine bN ?_ _ | refine bD ?_ | refine bA ?_ _)); exact BK121.out) hb)
            have n2_ := am (bB (g := gb125) (o := .cells #[.int .i64 t123, .int .i64 t124] 26 (0, 0)) (by (with_reducible repeat (first | refine bN ?_ _ | refine bD ?_ | refine bA ?_ _)); exact BK125.out) hb)
            have n3_ := am (bB (g := gb131) (o := .cells #[.int .i64 t128, .int .i64 t129] 26 (0, 0)) (by (with_reducible repeat (first | refine bN ?_ _ | refine bD ?_ | refine bA ?_ _)); exact BK131.out) hb)
            have n4_ := am (bB (g := gb132) (o := .cells #[.int .i64 (wrap64 (t123 + (wrap64 (a2)))), .int .i64 (wrap64 (t124 + (wrap64 (a2))))] 26 (0, 0)) (by (with_reducible repeat (first | refine bN ?_ _ | refine bD ?_ | refine bA ?_ _)); exact BK132.out) hb)
            have n5_ := am (bB (g := gb138) (o := .cells #[.int .i64 0, .int .i64 0] 26 (0, 0)) (by (with_reducible repeat (first | refine bN ?_ _ | refine bD ?_ | refine bA ?_ _)); exact BK138.out) hb)
            have n6_ := am (below_step (by repeat (first | (with_reducible first | exact HB.out | apply lA | apply lN | apply lD | refine below_set ?_ GE120.out | refine below_set ?_ GE121.out | refine below_set ?_ GE125.out | refine below_set ?_ GE131.out | refine below_set ?_ GE132.out | refine below_set ?_ GE138.out) | exact HB.out)) hb)
            clear BK120
            clear BK121
            clear BK125
            clear BK131
            clear BK132
            clear BK138
            clear HB
            have BK120 := n0_
            have BK121 := n1_
            have BK125 := n2_
            have BK131 := n3_
            have BK132 := n4_
            have BK138 := n5_
            have HB := n6_
            clear n0_ n1_ n2_ n3_ n4_ n5_ n6_
            (try clear hb)
            (try clear hb2)
            (try clear hk)
            (try clear hi)
            refine hK.out _ _ ⟨(blk_cell BK132.out 0).trans rfl, (blk_cell BK132.out 1).trans rfl, (blk_cell BK121.out 0).trans rfl, (blk_cell BK121.out 1).trans rfl⟩ (fun hHeld => ?_)
            clear hK K
            refine norm_ (a' := ?_) ?_ ?_
            rotate_left
            ·show Act.put _ (some 63) _ = _
             simp only [Act.put, zT, z0, zS, i64_w, i32_w]
             rfl
            refine pure_ (i := 4) (N := some 59) (v := ?_) (a' := ?_) #[true, true, true, true, true, false, false, true, false, false] rfl rfl (any_of HT_.out (by kernel_rfl)) (fun _ _ _ h => h) (Or.inl ⟨by rfl, ?_⟩) ?_ ?_
            rotate_left
            ·intro w'
             go_simp
             with_reducible rfl
            rotate_left
            ·simp only [Act.put, zT, z0, zS, i64_w, i32_w]
             rfl
            refine pure_ (i := 5) (N := some 64) (v := ?_) (a' := ?_) #[true, true, true, true, true, true, false, true, false, false] rfl rfl (any_of HT_.out (by kernel_rfl)) (fun _ _ _ h => h) (Or.inl ⟨by rfl, ?_⟩) ?_ ?_
            rotate_left
            ·intro w'
             go_simp
             with_reducible rfl
            rotate_left
            ·simp only [Act.put, zT, z0, zS, i64_w, i32_w]
             rfl
            refine pure_ (i := 6) (N := some 65) (v := ?_) (a' := ?_) #[true, true, true, true, true, true, true, true, false, false] rfl rfl (any_of HT_.out (by kernel_rfl)) (fun _ _ _ h => h) (Or.inl ⟨by rfl, ?_⟩) ?_ ?_
            rotate_left
            ·intro w'
             go_simp
             with_reducible rfl
            rotate_left
            ·simp only [Act.put, zT, z0, zS, i64_w, i32_w]
             rfl
            exact norm_ (by simp only [putAll, Act.put, zT, z0, zS]) (hCont (gb138) _ ⟨hHeld, (by (with_reducible repeat (first | refine bN ?_ _ | refine bD ?_ | refine bA ?_ _)); exact BK120.out), (by (with_reducible repeat (first | refine bN ?_ _ | refine bD ?_ | refine bA ?_ _)); exact BK121.out), (by (with_reducible repeat (first | refine bN ?_ _ | refine bD ?_ | refine bA ?_ _)); exact BK125.out), (by (with_reducible repeat (first | refine bN ?_ _ | refine bD ?_ | refine bA ?_ _)); exact BK131.out), (by (with_reducible repeat (first | refine bN ?_ _ | refine bD ?_ | refine bA ?_ _)); exact BK132.out), (by (with_reducible repeat (first | refine bN ?_ _ | refine bD ?_ | refine bA ?_ _)); exact BK138.out), GW138.out, GE138.out, NB120_138.out, NB138_120.out, NB121_138.out, NB138_121.out, NB125_138.out, NB138_125.out, NB131_138.out, NB138_131.out, NB132_138.out, NB138_132.out, (by repeat (first | (with_reducible first | exact HB.out | apply lA | apply lN | apply lD | refine below_set ?_ GE120.out | refine below_set ?_ GE121.out | refine below_set ?_ GE125.out | refine below_set ?_ GE131.out | refine below_set ?_ GE132.out | refine below_set ?_ GE138.out) | exact HB.out))⟩)
          ·skip
           refine box_step ?hg (N := 12) ?hd (cs := #[.int .i64 0, .int .i64 0]) (t := 26) ?hr ?_; (case hd => rfl); (case hg => rfl); (case hr => first | (go_simp; done) | (go_simp; rfl))
           intro gb138 hg w48 hbox hb
           have n0_ := am (bB (g := gb120) (o := .cells #[.int .i64 a0_0, .int .i64 a0_1] 23 (0, 0)) (by (with_reducible repeat (first | refine bN ?_ _ | refine bD ?_ | refine bA ?_ _)); exact BK120.out) hb)
           have n1_ := am (bB (g := gb121) (o := .cells #[.int .i64 a1_0, .int .i64 a1_1] 23 (0, 0)) (by (with_reducible repeat (first | refine bN ?_ _ | refine bD ?_ | refine bA ?_ _)); exact BK121.out) hb)
           have n2_ := am (bB (g := gb125) (o := .cells #[.int .i64 t123, .int .i64 t124] 26 (0, 0)) (by (with_reducible repeat (first | refine bN ?_ _ | refine bD ?_ | refine bA ?_ _)); exact BK125.out) hb)
           have n3_ := am (bB (g := gb131) (o := .cells #[.int .i64 t128, .int .i64 t129] 26 (0, 0)) (by (with_reducible repeat (first | refine bN ?_ _ | refine bD ?_ | refine bA ?_ _)); exact BK131.out) hb)
           have n4_ := am (bB (g := gb132) (o := .cells #[.int .i64 (wrap64 (t123 + (wrap64 (a2)))), .int .i64 (wrap64 (t124 + (wrap64 (a2))))] 26 (0, 0)) (by (with_reducible repeat (first | refine bN ?_ _ | refine bD ?_ | refine bA ?_ _)); exact BK132.out) hb)
           have n5_ := am (below_step (by repeat (first | (with_reducible first | exact HB.out | apply lA | apply lN | apply lD | refine below_set ?_ GE120.out | refine below_set ?_ GE121.out | refine below_set ?_ GE125.out | refine below_set ?_ GE131.out | refine below_set ?_ GE132.out) | exact HB.out)) hb)
           have n6_ := am (hbox)
           have n7_ := am ((by rw [hg]; exact (below_size (by repeat (first | (with_reducible first | exact HB.out | apply lA | apply lN | apply lD | refine below_set ?_ GE120.out | refine below_set ?_ GE121.out | refine below_set ?_ GE125.out | refine below_set ?_ GE131.out | refine below_set ?_ GE132.out) | exact HB.out))) : w.heap.size ≤ gb138))
           have n8_ := n7_
           have n9_ := am ((by rw [hg]; exact Nat.ne_of_lt (blk_lt (g := gb120) (o := .cells #[.int .i64 a0_0, .int .i64 a0_1] 23 (0, 0)) (by (with_reducible repeat (first | refine bN ?_ _ | refine bD ?_ | refine bA ?_ _)); exact BK120.out)) : gb120 ≠ gb138))
           have n10_ := am ((by rw [hg]; exact Nat.ne_of_gt (blk_lt (g := gb120) (o := .cells #[.int .i64 a0_0, .int .i64 a0_1] 23 (0, 0)) (by (with_reducible repeat (first | refine bN ?_ _ | refine bD ?_ | refine bA ?_ _)); exact BK120.out)) : gb138 ≠ gb120))
           have n11_ := am ((by rw [hg]; exact Nat.ne_of_lt (blk_lt (g := gb121) (o := .cells #[.int .i64 a1_0, .int .i64 a1_1] 23 (0, 0)) (by (with_reducible repeat (first | refine bN ?_ _ | refine bD ?_ | refine bA ?_ _)); exact BK121.out)) : gb121 ≠ gb138))
           have n12_ := am ((by rw [hg]; exact Nat.ne_of_gt (blk_lt (g := gb121) (o := .cells #[.int .i64 a1_0, .int .i64 a1_1] 23 (0, 0)) (by (with_reducible repeat (first | refine bN ?_ _ | refine bD ?_ | refine bA ?_ _)); exact BK121.out)) : gb138 ≠ gb121))
           have n13_ := am ((by rw [hg]; exact Nat.ne_of_lt (blk_lt (g := gb125) (o := .cells #[.int .i64 t123, .int .i64 t124] 26 (0, 0)) (by (with_reducible repeat (first | refine bN ?_ _ | refine bD ?_ | refine bA ?_ _)); exact BK125.out)) : gb125 ≠ gb138))
           have n14_ := am ((by rw [hg]; exact Nat.ne_of_gt (blk_lt (g := gb125) (o := .cells #[.int .i64 t123, .int .i64 t124] 26 (0, 0)) (by (with_reducible repeat (first | refine bN ?_ _ | refine bD ?_ | refine bA ?_ _)); exact BK125.out)) : gb138 ≠ gb125))
           have n15_ := am ((by rw [hg]; exact Nat.ne_of_lt (blk_lt (g := gb131) (o := .cells #[.int .i64 t128, .int .i64 t129] 26 (0, 0)) (by (with_reducible repeat (first | refine bN ?_ _ | refine bD ?_ | refine bA ?_ _)); exact BK131.out)) : gb131 ≠ gb138))
           have n16_ := am ((by rw [hg]; exact Nat.ne_of_gt (blk_lt (g := gb131) (o := .cells #[.int .i64 t128, .int .i64 t129] 26 (0, 0)) (by (with_reducible repeat (first | refine bN ?_ _ | refine bD ?_ | refine bA ?_ _)); exact BK131.out)) : gb138 ≠ gb131))
           have n17_ := am ((by rw [hg]; exact Nat.ne_of_lt (blk_lt (g := gb132) (o := .cells #[.int .i64 (wrap64 (t123 + (wrap64 (a2)))), .int .i64 (wrap64 (t124 + (wrap64 (a2))))] 26 (0, 0)) (by (with_reducible repeat (first | refine bN ?_ _ | refine bD ?_ | refine bA ?_ _)); exact BK132.out)) : gb132 ≠ gb138))
           have n18_ := am ((by rw [hg]; exact Nat.ne_of_gt (blk_lt (g := gb132) (o := .cells #[.int .i64 (wrap64 (t123 + (wrap64 (a2)))), .int .i64 (wrap64 (t124 + (wrap64 (a2))))] 26 (0, 0)) (by (with_reducible repeat (first | refine bN ?_ _ | refine bD ?_ | refine bA ?_ _)); exact BK132.out)) : gb138 ≠ gb132))
           clear BK120
           clear BK121
           clear BK125
           clear BK131
           clear BK132
           clear HB
           have BK120 := n0_
           have BK121 := n1_
           have BK125 := n2_
           have BK131 := n3_
           have BK132 := n4_
           have HB := n5_
           have BK138 := n6_
           have GW138 := n7_
           have GE138 := n8_
           have NB120_138 := n9_
           have NB138_120 := n10_
           have NB121_138 := n11_
           have NB138_121 := n12_
           have NB125_138 := n13_
           have NB138_125 := n14_
           have NB131_138 := n15_
           have NB138_131 := n16_
           have NB132_138 := n17_
           have NB138_132 := n18_
           clear n0_ n1_ n2_ n3_ n4_ n5_ n6_ n7_ n8_ n9_ n10_ n11_ n12_ n13_ n14_ n15_ n16_ n17_ n18_
           clear hb hbox hg
           refine hK.out _ _ ⟨(blk_cell BK132.out 0).trans rfl, (blk_cell BK132.out 1).trans rfl, (blk_cell BK121.out 0).trans rfl, (blk_cell BK121.out 1).trans rfl⟩ (fun hHeld => ?_)
           clear hK K
           refine norm_ (a' := ?_) ?_ ?_
           rotate_left
           ·show Act.put _ (some 12) _ = _
            simp only [Act.put, zT, z0, zS, i64_w, i32_w]
            rfl
           refine one_ (i := 2) (N := some 62) #[true, true, true, false, false, false, false, true, false, false] rfl rfl (one_of HT_.out (by kernel_rfl)) (by decide) (fun K hK => ?_)
           refine goes_ Try.func15 (by kernel_rfl) rfl #[.agg #[.int .i64 a1_0, .int .i64 a1_1]] (by rfl) rfl rfl (by (try simp only [List.map_toArray, List.map_cons, List.map_nil]); first | done | rfl | (simp only [List.length_drop, List.length_take]; rfl)) ?_
           with_reducible refine (reredoslaw06_made.calls a1_0 a1_1 t133 t134 _ A9.out).mono ?_
           rintro e w49 ⟨rfl, hb⟩
           refine ⟨_, rfl, ?_⟩
           have n0_ := am (bB (g := gb120) (o := .cells #[.int .i64 a0_0, .int .i64 a0_1] 23 (0, 0)) (by (with_reducible repeat (first | refine bN ?_ _ | refine bD ?_ | refine bA ?_ _)); exact BK120.out) hb)
           have n1_ := am (bB (g := gb121) (o := .cells #[.int .i64 a1_0, .int .i64 a1_1] 23 (0, 0)) (by (with_reducible repeat (first | refine bN ?_ _ | refine bD ?_ | refine bA ?_ _)); exact BK121.out) hb)
           have n2_ := am (bB (g := gb125) (o := .cells #[.int .i64 t123, .int .i64 t124] 26 (0, 0)) (by (with_reducible repeat (first | refine bN ?_ _ | refine bD ?_ | refine bA ?_ _)); exact BK125.out) hb)
           have n3_ := am (bB (g := gb131) (o := .cells #[.int .i64 t128, .int .i64 t129] 26 (0, 0)) (by (with_reducible repeat (first | refine bN ?_ _ | refine bD ?_ | refine bA ?_ _)); exact BK131.out) hb)
           have n4_ := am (bB (g := gb132) (o := .cells #[.int .i64 (wrap64 (t123 + (wrap64 (a2)))), .int .i64 (wrap64 (t124 + (wrap64 (a2))))] 26 (0, 0)) (by (with_reducible repeat (first | refine bN ?_ _ | refine bD ?_ | refine bA ?_ _)); exact BK132.out) hb)
           have n5_ := am (bB (g := gb138) (o := .cells #[.int .i64 0, .int .i64 0] 26 (0, 0)) (by (with_reducible repeat (first | refine bN ?_ _ | refine bD ?_ | refine bA ?_ _)); exact BK138.out) hb)
           have n6_ := am (below_step (by repeat (first | (with_reducible first | exact HB.out | apply lA | apply lN | apply lD | refine below_set ?_ GE120.out | refine below_set ?_ GE121.out | refine below_set ?_ GE125.out | refine below_set ?_ GE131.out | refine below_set ?_ GE132.out | refine below_set ?_ GE138.out) | exact HB.out)) hb)
           clear BK120
           clear BK121
           clear BK125
           clear BK131
           clear BK132
           clear BK138
           clear HB
           have BK120 := n0_
           have BK121 := n1_
           have BK125 := n2_
           have BK131 := n3_
           have BK132 := n4_
           have BK138 := n5_
           have HB := n6_
           clear n0_ n1_ n2_ n3_ n4_ n5_ n6_
           (try clear hb)
           (try clear hb2)
           (try clear hk)
           (try clear hi)
           refine hK.out _ _ ⟨(blk_cell BK132.out 0).trans rfl, (blk_cell BK132.out 1).trans rfl, (blk_cell BK121.out 0).trans rfl, (blk_cell BK121.out 1).trans rfl⟩ (fun hHeld => ?_)
           clear hK K
           refine norm_ (a' := ?_) ?_ ?_
           rotate_left
           ·show Act.put _ (some 62) _ = _
            simp only [Act.put, zT, z0, zS, i64_w, i32_w]
            rfl
           refine one_ (i := 3) (N := some 63) #[true, true, true, true, false, false, false, true, false, false] rfl rfl (one_of HT_.out (by kernel_rfl)) (by decide) (fun K hK => ?_)
           refine goes_ Try.func14 (by kernel_rfl) rfl #[.agg #[.int .i64 (wrap64 (t123 + (wrap64 (a2)))), .int .i64 (wrap64 (t124 + (wrap64 (a2))))], .agg #[.int .i64 t133, .int .i64 t134]] (by rfl) rfl rfl (by (try simp only [List.map_toArray, List.map_cons, List.map_nil]); first | done | rfl | (simp only [List.length_drop, List.length_take]; rfl)) ?_
           with_reducible refine (budget_Budget_Pay.calls (wrap64 (t123 + (wrap64 (a2)))) (wrap64 (t124 + (wrap64 (a2)))) t133 t134 t135 t136 t137 _ A10.out).mono ?_
           rintro e w50 ⟨rfl, hb⟩
           refine ⟨_, rfl, ?_⟩
           have n0_ := am (bB (g := gb120) (o := .cells #[.int .i64 a0_0, .int .i64 a0_1] 23 (0, 0)) (by (with_reducible repeat (first | refine bN ?_ _ | refine bD ?_ | refine bA ?_ _)); exact BK120.out) hb)
           have n1_ := am (bB (g := gb121) (o := .cells #[.int .i64 a1_0, .int .i64 a1_1] 23 (0, 0)) (by (with_reducible repeat (first | refine bN ?_ _ | refine bD ?_ | refine bA ?_ _)); exact BK121.out) hb)
           have n2_ := am (bB (g := gb125) (o := .cells #[.int .i64 t123, .int .i64 t124] 26 (0, 0)) (by (with_reducible repeat (first | refine bN ?_ _ | refine bD ?_ | refine bA ?_ _)); exact BK125.out) hb)
           have n3_ := am (bB (g := gb131) (o := .cells #[.int .i64 t128, .int .i64 t129] 26 (0, 0)) (by (with_reducible repeat (first | refine bN ?_ _ | refine bD ?_ | refine bA ?_ _)); exact BK131.out) hb)
           have n4_ := am (bB (g := gb132) (o := .cells #[.int .i64 (wrap64 (t123 + (wrap64 (a2)))), .int .i64 (wrap64 (t124 + (wrap64 (a2))))] 26 (0, 0)) (by (with_reducible repeat (first | refine bN ?_ _ | refine bD ?_ | refine bA ?_ _)); exact BK132.out) hb)
           have n5_ := am (bB (g := gb138) (o := .cells #[.int .i64 0, .int .i64 0] 26 (0, 0)) (by (with_reducible repeat (first | refine bN ?_ _ | refine bD ?_ | refine bA ?_ _)); exact BK138.out) hb)
           have n6_ := am (below_step (by repeat (first | (with_reducible first | exact HB.out | apply lA | apply lN | apply lD | refine below_set ?_ GE120.out | refine below_set ?_ GE121.out | refine below_set ?_ GE125.out | refine below_set ?_ GE131.out | refine below_set ?_ GE132.out | refine below_set ?_ GE138.out) | exact HB.out)) hb)
           clear BK120
           clear BK121
           clear BK125
           clear BK131
           clear BK132
           clear BK138
           clear HB
           have BK120 := n0_
           have BK121 := n1_
           have BK125 := n2_
           have BK131 := n3_
           have BK132 := n4_
           have BK138 := n5_
           have HB := n6_
           clear n0_ n1_ n2_ n3_ n4_ n5_ n6_
           (try clear hb)
           (try clear hb2)
           (try clear hk)
           (try clear hi)
           refine hK.out _ _ ⟨(blk_cell BK132.out 0).trans rfl, (blk_cell BK132.out 1).trans rfl, (blk_cell BK121.out 0).trans rfl, (blk_cell BK121.out 1).trans rfl⟩ (fun hHeld => ?_)
           clear hK K
           refine norm_ (a' := ?_) ?_ ?_
           rotate_left
           ·show Act.put _ (some 63) _ = _
            simp only [Act.put, zT, z0, zS, i64_w, i32_w]
            rfl
           refine pure_ (i := 4) (N := some 59) (v := ?_) (a' := ?_) #[true, true, true, true, true, false, false, true, false, false] rfl rfl (any_of HT_.out (by kernel_rfl)) (fun _ _ _ h => h) (Or.inl ⟨by rfl, ?_⟩) ?_ ?_
           rotate_left
           ·intro w'
            go_simp
            with_reducible rfl
           rotate_left
           ·simp only [Act.put, zT, z0, zS, i64_w, i32_w]
            rfl
           refine pure_ (i := 5) (N := some 64) (v := ?_) (a' := ?_) #[true, true, true, true, true, true, false, true, false, false] rfl rfl (any_of HT_.out (by kernel_rfl)) (fun _ _ _ h => h) (Or.inl ⟨by rfl, ?_⟩) ?_ ?_
           rotate_left
           ·intro w'
            go_simp
            with_reducible rfl
           rotate_left
           ·simp only [Act.put, zT, z0, zS, i64_w, i32_w]
            rfl
           refine pure_ (i := 6) (N := some 65) (v := ?_) (a' := ?_) #[true, true, true, true, true, true, true, true, false, false] rfl rfl (any_of HT_.out (by kernel_rfl)) (fun _ _ _ h => h) (Or.inl ⟨by rfl, ?_⟩) ?_ ?_
           rotate_left
           ·intro w'
            go_simp
            with_reducible rfl
           rotate_left
           ·simp only [Act.put, zT, z0, zS, i64_w, i32_w]
            rfl
           exact norm_ (by simp only [putAll, Act.put, zT, z0, zS]) (hCont (gb138) _ ⟨hHeld, (by (with_reducible repeat (first | refine bN ?_ _ | refine bD ?_ | refine bA ?_ _)); exact BK120.out), (by (with_reducible repeat (first | refine bN ?_ _ | refine bD ?_ | refine bA ?_ _)); exact BK121.out), (by (with_reducible repeat (first | refine bN ?_ _ | refine bD ?_ | refine bA ?_ _)); exact BK125.out), (by (with_reducible repeat (first | refine bN ?_ _ | refine bD ?_ | refine bA ?_ _)); exact BK131.out), (by (with_reducible repeat (first | refine bN ?_ _ | refine bD ?_ | refine bA ?_ _)); exact BK132.out), (by (with_reducible repeat (first | refine bN ?_ _ | refine bD ?_ | refine bA ?_ _)); exact BK138.out), GW138.out, GE138.out, NB120_138.out, NB138_120.out, NB121_138.out, NB138_121.out, NB125_138.out, NB138_125.out, NB131_138.out, NB138_131.out, NB132_138.out, NB138_132.out, (by repeat (first | (with_reducible first | exact HB.out | apply lA | apply lN | apply lD | refine below_set ?_ GE120.out | refine below_set ?_ GE121.out | refine below_set ?_ GE125.out | refine below_set ?_ GE131.out | refine below_set ?_ GE132.out | refine below_set ?_ GE138.out) | exact HB.out))⟩)
         rintro gb138 w51 ⟨hS_, h0_, h1_, h2_, h3_, h4_, h5_, h6_, h7_, h8_, h9_, h10_, h11_, h12_, h13_, h14_, h15_, h16_, h17_, h18_⟩
         have n0_ : Aside0 (w51.heap[gb120]? = some (.cells #[.int .i64 a0_0, .int .i64 a0_1] 23 (0, 0))) := ⟨h0_⟩
         have n1_ : Aside0 (w51.heap[gb121]? = some (.cells #[.int .i64 a1_0, .int .i64 a1_1] 23 (0, 0))) := ⟨h1_⟩
         have n2_ : Aside0 (w51.heap[gb125]? = some (.cells #[.int .i64 t123, .int .i64 t124] 26 (0, 0))) := ⟨h2_⟩
         have n3_ : Aside0 (w51.heap[gb131]? = some (.cells #[.int .i64 t128, .int .i64 t129] 26 (0, 0))) := ⟨h3_⟩
         have n4_ : Aside0 (w51.heap[gb132]? = some (.cells #[.int .i64 (wrap64 (t123 + (wrap64 (a2)))), .int .i64 (wrap64 (t124 + (wrap64 (a2))))] 26 (0, 0))) := ⟨h4_⟩
         have n5_ : Aside0 (w51.heap[gb138]? = some (.cells #[.int .i64 0, .int .i64 0] 26 (0, 0))) := ⟨h5_⟩
         have n6_ : Aside0 (w.heap.size ≤ gb138) := ⟨h6_⟩
         have n7_ : Aside0 (w.heap.size ≤ gb138) := ⟨h7_⟩
         have n8_ : Aside0 (gb120 ≠ gb138) := ⟨h8_⟩
         have n9_ : Aside0 (gb138 ≠ gb120) := ⟨h9_⟩
         have n10_ : Aside0 (gb121 ≠ gb138) := ⟨h10_⟩
         have n11_ : Aside0 (gb138 ≠ gb121) := ⟨h11_⟩
         have n12_ : Aside0 (gb125 ≠ gb138) := ⟨h12_⟩
         have n13_ : Aside0 (gb138 ≠ gb125) := ⟨h13_⟩
         have n14_ : Aside0 (gb131 ≠ gb138) := ⟨h14_⟩
         have n15_ : Aside0 (gb138 ≠ gb131) := ⟨h15_⟩
         have n16_ : Aside0 (gb132 ≠ gb138) := ⟨h16_⟩
         have n17_ : Aside0 (gb138 ≠ gb132) := ⟨h17_⟩
         have n18_ : Aside0 (Below w.heap.size w w51) := ⟨h18_⟩
         clear BK120
         clear BK121
         clear BK125
         clear BK131
         clear BK132
         clear HB
         clear h0_ h1_ h2_ h3_ h4_ h5_ h6_ h7_ h8_ h9_ h10_ h11_ h12_ h13_ h14_ h15_ h16_ h17_ h18_
         have BK120 := n0_
         have BK121 := n1_
         have BK125 := n2_
         have BK131 := n3_
         have BK132 := n4_
         have BK138 := n5_
         have GW138 := n6_
         have GE138 := n7_
         have NB120_138 := n8_
         have NB138_120 := n9_
         have NB121_138 := n10_
         have NB138_121 := n11_
         have NB125_138 := n12_
         have NB138_125 := n13_
         have NB131_138 := n14_
         have NB138_131 := n15_
         have NB132_138 := n16_
         have NB138_132 := n17_
         have HB := n18_
         clear n0_ n1_ n2_ n3_ n4_ n5_ n6_ n7_ n8_ n9_ n10_ n11_ n12_ n13_ n14_ n15_ n16_ n17_ n18_
         have hHeld : w51.cell? ⟨gb132, 0, none⟩ = some (.int .i64 (wrap64 (t123 + (wrap64 (a2))))) ∧ w51.cell? ⟨gb132, 1, none⟩ = some (.int .i64 (wrap64 (t124 + (wrap64 (a2))))) ∧ w51.cell? ⟨gb121, 0, none⟩ = some (.int .i64 a1_0) ∧ w51.cell? ⟨gb121, 1, none⟩ = some (.int .i64 a1_1) := hS_
         refine norm_ (a' := ?_) ?_ ?_
         rotate_left
         ·simp only [putAll, Act.put, zT, z0, zS]
          rfl
         refine one_ (i := 8) (N := none) #[true, true, true, true, true, true, true, true, true, false] rfl rfl (one_of HT_.out (by kernel_rfl)) (by decide) (fun K hK => ?_)
         have hs52 : w51.cell? ⟨gb138, 0, none⟩ = some (.int .i64 0) := (blk_cell BK138.out 0).trans rfl
         have hfs52 := blk_frozen BK138.out 0
         have hns52_0 := NB120_138.out
         have hns52_1 := NB121_138.out
         have hns52_2 := NB125_138.out
         have hns52_3 := NB131_138.out
         have hns52_4 := NB132_138.out
         have hms52_0 := NB138_120.out
         have hms52_1 := NB138_121.out
         have hms52_2 := NB138_125.out
         have hms52_3 := NB138_131.out
         have hms52_4 := NB138_132.out
         have hs53 : w51.cell? ⟨gb138, 1, none⟩ = some (.int .i64 0) := (blk_cell BK138.out 1).trans rfl
         have hfs53 := blk_frozen BK138.out 1
         have hns53_0 := NB120_138.out
         have hns53_1 := NB121_138.out
         have hns53_2 := NB125_138.out
         have hns53_3 := NB131_138.out
         have hns53_4 := NB132_138.out
         have hms53_0 := NB138_120.out
         have hms53_1 := NB138_121.out
         have hms53_2 := NB138_125.out
         have hms53_3 := NB138_131.out
         have hms53_4 := NB138_132.out
         refine skip_ (w1 := ?_) (by rfl) rfl ?_ ?_
         rotate_left
         ·go_simp
          rfl
         refine hK.out _ _ ⟨((cell_far (p := ⟨gb138, _, none⟩) NB132_138.out _).trans (((cell_far (p := ⟨gb138, _, none⟩) NB132_138.out _).trans (hHeld.1)))), ((cell_far (p := ⟨gb138, _, none⟩) NB132_138.out _).trans (((cell_far (p := ⟨gb138, _, none⟩) NB132_138.out _).trans (hHeld.2.1)))), ((cell_far (p := ⟨gb138, _, none⟩) NB121_138.out _).trans (((cell_far (p := ⟨gb138, _, none⟩) NB121_138.out _).trans (hHeld.2.2.1)))), ((cell_far (p := ⟨gb138, _, none⟩) NB121_138.out _).trans (((cell_far (p := ⟨gb138, _, none⟩) NB121_138.out _).trans (hHeld.2.2.2))))⟩ (fun hHeld => ?_)
         clear hK K
         refine pure_ (i := 9) (N := some 13) (v := ?_) (a' := ?_) #[true, true, true, true, true, true, true, true, true, true] rfl rfl (any_of HT_.out (by kernel_rfl)) (fun _ _ _ h => h) (Or.inl ⟨by rfl, ?_⟩) ?_ ?_
         rotate_left
         ·intro w'
          go_simp
          with_reducible rfl
         rotate_left
         ·simp only [Act.put, zT, z0, zS, i64_w, i32_w]
          rfl
         refine done_ (done_of HT_.out (by kernel_rfl)) ?_
         try go_wp2
         have n0_ : Aside0 (((w51.setCell ⟨gb138, 0, none⟩ (.int .i64 t135)).setCell ⟨gb138, 1, none⟩ (.int .i64 t136)).heap[gb120]? = some (.cells #[.int .i64 a0_0, .int .i64 a0_1] 23 (0, 0))) := ⟨by (with_reducible repeat (first | refine bN ?_ _ | refine bD ?_ | refine bA ?_ _)); refine blk_far ?_ NB120_138.out _; (with_reducible repeat (first | refine bN ?_ _ | refine bD ?_ | refine bA ?_ _)); refine blk_far ?_ NB120_138.out _; (with_reducible repeat (first | refine bN ?_ _ | refine bD ?_ | refine bA ?_ _)); exact BK120.out⟩
         have n1_ : Aside0 (((w51.setCell ⟨gb138, 0, none⟩ (.int .i64 t135)).setCell ⟨gb138, 1, none⟩ (.int .i64 t136)).heap[gb121]? = some (.cells #[.int .i64 a1_0, .int .i64 a1_1] 23 (0, 0))) := ⟨by (with_reducible repeat (first | refine bN ?_ _ | refine bD ?_ | refine bA ?_ _)); refine blk_far ?_ NB121_138.out _; (with_reducible repeat (first | refine bN ?_ _ | refine bD ?_ | refine bA ?_ _)); refine blk_far ?_ NB121_138.out _; (with_reducible repeat (first | refine bN ?_ _ | refine bD ?_ | refine bA ?_ _)); exact BK121.out⟩
         have n2_ : Aside0 (((w51.setCell ⟨gb138, 0, none⟩ (.int .i64 t135)).setCell ⟨gb138, 1, none⟩ (.int .i64 t136)).heap[gb125]? = some (.cells #[.int .i64 t123, .int .i64 t124] 26 (0, 0))) := ⟨by (with_reducible repeat (first | refine bN ?_ _ | refine bD ?_ | refine bA ?_ _)); refine blk_far ?_ NB125_138.out _; (with_reducible repeat (first | refine bN ?_ _ | refine bD ?_ | refine bA ?_ _)); refine blk_far ?_ NB125_138.out _; (with_reducible repeat (first | refine bN ?_ _ | refine bD ?_ | refine bA ?_ _)); exact BK125.out⟩
         have n3_ : Aside0 (((w51.setCell ⟨gb138, 0, none⟩ (.int .i64 t135)).setCell ⟨gb138, 1, none⟩ (.int .i64 t136)).heap[gb131]? = some (.cells #[.int .i64 t128, .int .i64 t129] 26 (0, 0))) := ⟨by (with_reducible repeat (first | refine bN ?_ _ | refine bD ?_ | refine bA ?_ _)); refine blk_far ?_ NB131_138.out _; (with_reducible repeat (first | refine bN ?_ _ | refine bD ?_ | refine bA ?_ _)); refine blk_far ?_ NB131_138.out _; (with_reducible repeat (first | refine bN ?_ _ | refine bD ?_ | refine bA ?_ _)); exact BK131.out⟩
         have n4_ : Aside0 (((w51.setCell ⟨gb138, 0, none⟩ (.int .i64 t135)).setCell ⟨gb138, 1, none⟩ (.int .i64 t136)).heap[gb132]? = some (.cells #[.int .i64 (wrap64 (t123 + (wrap64 (a2)))), .int .i64 (wrap64 (t124 + (wrap64 (a2))))] 26 (0, 0))) := ⟨by (with_reducible repeat (first | refine bN ?_ _ | refine bD ?_ | refine bA ?_ _)); refine blk_far ?_ NB132_138.out _; (with_reducible repeat (first | refine bN ?_ _ | refine bD ?_ | refine bA ?_ _)); refine blk_far ?_ NB132_138.out _; (with_reducible repeat (first | refine bN ?_ _ | refine bD ?_ | refine bA ?_ _)); exact BK132.out⟩
         have n5_ : Aside0 (((w51.setCell ⟨gb138, 0, none⟩ (.int .i64 t135)).setCell ⟨gb138, 1, none⟩ (.int .i64 t136)).heap[gb138]? = some (.cells #[.int .i64 t135, .int .i64 t136] 26 (0, 0))) := ⟨by (with_reducible repeat (first | refine bN ?_ _ | refine bD ?_ | refine bA ?_ _)); refine blk_put (cs := #[.int .i64 t135, .int .i64 0]) ?_ 1 _ rfl; (with_reducible repeat (first | refine bN ?_ _ | refine bD ?_ | refine bA ?_ _)); refine blk_put (cs := #[.int .i64 0, .int .i64 0]) ?_ 0 _ rfl; (with_reducible repeat (first | refine bN ?_ _ | refine bD ?_ | refine bA ?_ _)); exact BK138.out⟩
         have n6_ : Aside0 (Below w.heap.size w ((w51.setCell ⟨gb138, 0, none⟩ (.int .i64 t135)).setCell ⟨gb138, 1, none⟩ (.int .i64 t136))) := ⟨by repeat (first | (with_reducible first | exact HB.out | apply lA | apply lN | apply lD | refine below_set ?_ GE120.out | refine below_set ?_ GE121.out | refine below_set ?_ GE125.out | refine below_set ?_ GE131.out | refine below_set ?_ GE132.out | refine below_set ?_ GE138.out) | exact HB.out)⟩
         (try clear BK120)
         (try clear BK121)
         (try clear BK125)
         (try clear BK131)
         (try clear BK132)
         (try clear BK138)
         (try clear HB)
         generalize ((w51.setCell ⟨gb138, 0, none⟩ (.int .i64 t135)).setCell ⟨gb138, 1, none⟩ (.int .i64 t136)) = w54 at n0_ n1_ n2_ n3_ n4_ n5_ n6_ ⊢
         have BK120 := n0_
         have BK121 := n1_
         have BK125 := n2_
         have BK131 := n3_
         have BK132 := n4_
         have BK138 := n5_
         have HB := n6_
         clear n0_ n1_ n2_ n3_ n4_ n5_ n6_
         have n0_ := am (bD BK120.out)
         have n1_ := am (bD BK121.out)
         have n2_ := am (bD BK125.out)
         have n3_ := am (bD BK131.out)
         have n4_ := am (bD BK132.out)
         have n5_ := am (bD BK138.out)
         have n6_ := am (lD HB.out)
         clear BK120
         clear BK121
         clear BK125
         clear BK131
         clear BK132
         clear BK138
         clear HB
         have BK120 := n0_
         have BK121 := n1_
         have BK125 := n2_
         have BK131 := n3_
         have BK132 := n4_
         have BK138 := n5_
         have HB := n6_
         clear n0_ n1_ n2_ n3_ n4_ n5_ n6_
         refine start_ (n := 46) (S := fun w' => w'.cell? ⟨gb131, 0, none⟩ = some (.int .i64 t128) ∧ w'.cell? ⟨gb131, 1, none⟩ = some (.int .i64 t129) ∧ w'.cell? ⟨gb125, 0, none⟩ = some (.int .i64 t123) ∧ w'.cell? ⟨gb125, 1, none⟩ = some (.int .i64 t124) ∧ w'.cell? ⟨gb121, 0, none⟩ = some (.int .i64 a1_0) ∧ w'.cell? ⟨gb121, 1, none⟩ = some (.int .i64 a1_1) ∧ w'.cell? ⟨gb132, 0, none⟩ = some (.int .i64 (wrap64 (t123 + (wrap64 (a2))))) ∧ w'.cell? ⟨gb132, 1, none⟩ = some (.int .i64 (wrap64 (t124 + (wrap64 (a2)))))) (ds := []) #[false, false, false, false, false, false, false, false, false, false, false, false, false, false, false, false, false, false, false, false, false, false, false, false, false, false, false, false, false, false, false, false, false, false, false, false, false, false, false, false, false, false, false, false, false, false] (by kernel_rfl) rfl rfl ⟨(blk_cell BK131.out 0).trans rfl, (blk_cell BK131.out 1).trans rfl, (blk_cell BK125.out 0).trans rfl, (blk_cell BK125.out 1).trans rfl, (blk_cell BK121.out 0).trans rfl, (blk_cell BK121.out 1).trans rfl, (blk_cell BK132.out 0).trans rfl, (blk_cell BK132.out 1).trans rfl⟩ (fun hHeld => ?_); refine with_tabW reredoslaw06_BudgetNever.tab8 reredoslaw06_BudgetNever.bits8 (fun HT_ HW_ => ?_)
         generalize w54.drew = w55 at BK120 BK121 BK125 BK131 BK132 BK138 HB hHeld ⊢
         refine pure_ (i := 0) (N := some 66) (v := ?_) (a' := ?_) #[true, false, false, false, false, false, false, false, false, false, false, false, false, false, false, false, false, false, false, false, false, false, false, false, false, false, false, false, false, false, false, false, false, false, false, false, false, false, false, false, false, false, false, false, false, false] rfl rfl (any_of HT_.out (by kernel_rfl)) (fun _ _ _ h => h) (Or.inl ⟨by rfl, ?_⟩) ?_ ?_
         rotate_left
         ·intro w'
          go_simp
          with_reducible rfl
         rotate_left
         ·simp only [Act.put, zT, z0, zS, i64_w, i32_w]
          rfl
         refine pure_ (i := 1) (N := some 67) (v := ?_) (a' := ?_) #[true, true, false, false, false, false, false, false, false, false, false, false, false, false, false, false, false, false, false, false, false, false, false, false, false, false, false, false, false, false, false, false, false, false, false, false, false, false, false, false, false, false, false, false, false, false] rfl rfl (any_of HT_.out (by kernel_rfl)) (fun _ _ _ h => h) (Or.inl ⟨by rfl, ?_⟩) ?_ ?_
         rotate_left
         ·intro w'
          go_simp
          with_reducible rfl
         rotate_left
         ·simp only [Act.put, zT, z0, zS, i64_w, i32_w]
          rfl
         refine pure_ (i := 2) (N := some 68) (v := ?_) (a' := ?_) #[true, true, true, false, false, false, false, false, false, false, false, false, false, false, false, false, false, false, false, false, false, false, false, false, false, false, false, false, false, false, false, false, false, false, false, false, false, false, false, false, false, false, false, false, false, false] rfl rfl (any_of HT_.out (by kernel_rfl)) (fun _ _ _ h => h) (Or.inl ⟨by rfl, ?_⟩) ?_ ?_
         rotate_left
         ·intro w'
          go_simp
          with_reducible rfl
         rotate_left
         ·simp only [Act.put, zT, z0, zS, i64_w, i32_w]
          rfl
         refine take_ (i := 3) (N := some 69) (v := ?_) (a' := ?_) #[true, true, true, true, false, false, false, false, false, false, false, false, false, false, false, false, false, false, false, false, false, false, false, false, false, false, false, false, false, false, false, false, false, false, false, false, false, false, false, false, false, false, false, false, false, false] rfl rfl (take_ofW HT_.out HW_.out (by kernel_rfl)) (fun _ _ _ h => h) (Or.inl ⟨by rfl, ?_⟩) hHeld ?_ ?_
         rotate_left
         ·rintro w' ⟨s0, s1, s2, s3, s4, s5, s6, s7⟩
          go_simp
          with_reducible rfl
         rotate_left
         ·simp only [Act.put, zT, z0, zS, i64_w, i32_w]
          rfl
         refine pure_ (i := 4) (N := some 70) (v := ?_) (a' := ?_) #[true, true, true, true, true, false, false, false, false, false, false, false, false, false, false, false, false, false, false, false, false, false, false, false, false, false, false, false, false, false, false, false, false, false, false, false, false, false, false, false, false, false, false, false, false, false] rfl rfl (any_of HT_.out (by kernel_rfl)) (fun _ _ _ h => h) (Or.inl ⟨by rfl, ?_⟩) ?_ ?_
         rotate_left
         ·intro w'
          go_simp
          with_reducible rfl
         rotate_left
         ·simp only [Act.put, zT, z0, zS, i64_w, i32_w]
          rfl
         refine pure_ (i := 5) (N := some 71) (v := ?_) (a' := ?_) #[true, true, true, true, true, true, false, false, false, false, false, false, false, false, false, false, false, false, false, false, false, false, false, false, false, false, false, false, false, false, false, false, false, false, false, false, false, false, false, false, false, false, false, false, false, false] rfl rfl (any_of HT_.out (by kernel_rfl)) (fun _ _ _ h => h) (Or.inl ⟨by rfl, ?_⟩) ?_ ?_
         rotate_left
         ·intro w'
          go_simp
          with_reducible rfl
         rotate_left
         ·simp only [Act.put, zT, z0, zS, i64_w, i32_w]
          rfl
         refine pure_ (i := 6) (N := some 72) (v := ?_) (a' := ?_) #[true, true, true, true, true, true, true, false, false, false, false, false, false, false, false, false, false, false, false, false, false, false, false, false, false, false, false, false, false, false, false, false, false, false, false, false, false, false, false, false, false, false, false, false, false, false] rfl rfl (any_of HT_.out (by kernel_rfl)) (fun _ _ _ h => h) (Or.inl ⟨by rfl, ?_⟩) ?_ ?_
         rotate_left
         ·intro w'
          go_simp
          with_reducible rfl
         rotate_left
         ·simp only [Act.put, zT, z0, zS, i64_w, i32_w]
          rfl
         refine pure_ (i := 7) (N := some 73) (v := ?_) (a' := ?_) #[true, true, true, true, true, true, true, true, false, false, false, false, false, false, false, false, false, false, false, false, false, false, false, false, false, false, false, false, false, false, false, false, false, false, false, false, false, false, false, false, false, false, false, false, false, false] rfl rfl (any_of HT_.out (by kernel_rfl)) (fun _ _ _ h => h) (Or.inl ⟨by rfl, ?_⟩) ?_ ?_
         rotate_left
         ·intro w'
          go_simp
          with_reducible rfl
         rotate_left
         ·simp only [Act.put, zT, z0, zS, i64_w, i32_w]
          rfl
         refine take_ (i := 8) (N := some 74) (v := ?_) (a' := ?_) #[true, true, true, true, true, true, true, true, true, false, false, false, false, false, false, false, false, false, false, false, false, false, false, false, false, false, false, false, false, false, false, false, false, false, false, false, false, false, false, false, false, false, false, false, false, false] rfl rfl (take_ofW HT_.out HW_.out (by kernel_rfl)) (fun _ _ _ h => h) (Or.inl ⟨by rfl, ?_⟩) hHeld ?_ ?_
         rotate_left
         ·rintro w' ⟨s0, s1, s2, s3, s4, s5, s6, s7⟩
          go_simp
          with_reducible rfl
         rotate_left
         ·simp only [Act.put, zT, z0, zS, i64_w, i32_w]
          rfl
         refine pure_ (i := 9) (N := some 75) (v := ?_) (a' := ?_) #[true, true, true, true, true, true, true, true, true, true, false, false, false, false, false, false, false, false, false, false, false, false, false, false, false, false, false, false, false, false, false, false, false, false, false, false, false, false, false, false, false, false, false, false, false, false] rfl rfl (any_of HT_.out (by kernel_rfl)) (fun _ _ _ h => h) (Or.inl ⟨by rfl, ?_⟩) ?_ ?_
         rotate_left
         ·intro w'
          go_simp
          with_reducible rfl
         rotate_left
         ·simp only [Act.put, zT, z0, zS, i64_w, i32_w]
          rfl
         refine pure_ (i := 10) (N := some 76) (v := ?_) (a' := ?_) #[true, true, true, true, true, true, true, true, true, true, true, false, false, false, false, false, false, false, false, false, false, false, false, false, false, false, false, false, false, false, false, false, false, false, false, false, false, false, false, false, false, false, false, false, false, false] rfl rfl (any_of HT_.out (by kernel_rfl)) (fun _ _ _ h => h) (Or.inl ⟨by rfl, ?_⟩) ?_ ?_
         rotate_left
         ·intro w'
          go_simp
          with_reducible rfl
         rotate_left
         ·simp only [Act.put, zT, z0, zS, i64_w, i32_w]
          rfl
         refine pure_ (i := 11) (N := some 77) (v := ?_) (a' := ?_) #[true, true, true, true, true, true, true, true, true, true, true, true, false, false, false, false, false, false, false, false, false, false, false, false, false, false, false, false, false, false, false, false, false, false, false, false, false, false, false, false, false, false, false, false, false, false] rfl rfl (any_of HT_.out (by kernel_rfl)) (fun _ _ _ h => h) (Or.inl ⟨by rfl, ?_⟩) ?_ ?_
         rotate_left
         ·intro w'
          go_simp
          with_reducible rfl
         rotate_left
         ·simp only [Act.put, zT, z0, zS, i64_w, i32_w]
          rfl
         refine pure_ (i := 12) (N := some 78) (v := ?_) (a' := ?_) #[true, true, true, true, true, true, true, true, true, true, true, true, true, false, false, false, false, false, false, false, false, false, false, false, false, false, false, false, false, false, false, false, false, false, false, false, false, false, false, false, false, false, false, false, false, false] rfl rfl (any_of HT_.out (by kernel_rfl)) (fun _ _ _ h => h) (Or.inl ⟨by rfl, ?_⟩) ?_ ?_
         rotate_left
         ·intro w'
          go_simp
          with_reducible rfl
         rotate_left
         ·simp only [Act.put, zT, z0, zS, i64_w, i32_w]
          rfl
         refine pure_ (i := 14) (N := some 80) (v := ?_) (a' := ?_) #[true, true, true, true, true, true, true, true, true, true, true, true, true, false, true, false, false, false, false, false, false, false, false, false, false, false, false, false, false, false, false, false, false, false, false, false, false, false, false, false, false, false, false, false, false, false] rfl rfl (any_of HT_.out (by kernel_rfl)) (fun _ _ _ h => h) (Or.inl ⟨by rfl, ?_⟩) ?_ ?_
         rotate_left
         ·intro w'
          go_simp
          with_reducible rfl
         rotate_left
         ·simp only [Act.put, zT, z0, zS, i64_w, i32_w]
          rfl
         refine take_ (i := 13) (N := some 79) (v := ?_) (a' := ?_) #[true, true, true, true, true, true, true, true, true, true, true, true, true, true, true, false, false, false, false, false, false, false, false, false, false, false, false, false, false, false, false, false, false, false, false, false, false, false, false, false, false, false, false, false, false, false] rfl rfl (take_ofW HT_.out HW_.out (by kernel_rfl)) (fun _ _ _ h => h) (Or.inl ⟨by rfl, ?_⟩) hHeld ?_ ?_
         rotate_left
         ·rintro w' ⟨s0, s1, s2, s3, s4, s5, s6, s7⟩
          go_simp
          with_reducible rfl
         rotate_left
         ·simp only [Act.put, zT, z0, zS, i64_w, i32_w]
          rfl
         refine take_ (i := 15) (N := some 81) (v := ?_) (a' := ?_) #[true, true, true, true, true, true, true, true, true, true, true, true, true, true, true, true, false, false, false, false, false, false, false, false, false, false, false, false, false, false, false, false, false, false, false, false, false, false, false, false, false, false, false, false, false, false] rfl rfl (take_ofW HT_.out HW_.out (by kernel_rfl)) (fun _ _ _ h => h) (Or.inl ⟨by rfl, ?_⟩) hHeld ?_ ?_
         rotate_left
         ·rintro w' ⟨s0, s1, s2, s3, s4, s5, s6, s7⟩
          go_simp
          with_reducible rfl
         rotate_left
         ·simp only [Act.put, zT, z0, zS, i64_w, i32_w]
          rfl
         refine pure_ (i := 16) (N := some 82) (v := ?_) (a' := ?_) #[true, true, true, true, true, true, true, true, true, true, true, true, true, true, true, true, true, false, false, false, false, false, false, false, false, false, false, false, false, false, false, false, false, false, false, false, false, false, false, false, false, false, false, false, false, false] rfl rfl (any_of HT_.out (by kernel_rfl)) (fun _ _ _ h => h) (Or.inl ⟨by rfl, ?_⟩) ?_ ?_
         rotate_left
         ·intro w'
          go_simp
          with_reducible rfl
         rotate_left
         ·simp only [Act.put, zT, z0, zS, i64_w, i32_w]
          rfl
         refine pure_ (i := 17) (N := some 83) (v := ?_) (a' := ?_) #[true, true, true, true, true, true, true, true, true, true, true, true, true, true, true, true, true, true, false, false, false, false, false, false, false, false, false, false, false, false, false, false, false, false, false, false, false, false, false, false, false, false, false, false, false, false] rfl rfl (any_of HT_.out (by kernel_rfl)) (fun _ _ _ h => h) (Or.inl ⟨by rfl, ?_⟩) ?_ ?_
         rotate_left
         ·intro w'
          go_simp
          with_reducible rfl
         rotate_left
         ·simp only [Act.put, zT, z0, zS, i64_w, i32_w]
          rfl
         refine pure_ (i := 18) (N := some 84) (v := ?_) (a' := ?_) #[true, true, true, true, true, true, true, true, true, true, true, true, true, true, true, true, true, true, true, false, false, false, false, false, false, false, false, false, false, false, false, false, false, false, false, false, false, false, false, false, false, false, false, false, false, false] rfl rfl (any_of HT_.out (by kernel_rfl)) (fun _ _ _ h => h) (Or.inl ⟨by rfl, ?_⟩) ?_ ?_
         rotate_left
         ·intro w'
          go_simp
          with_reducible rfl
         rotate_left
         ·simp only [Act.put, zT, z0, zS, i64_w, i32_w]
          rfl
         refine pure_ (i := 19) (N := some 85) (v := ?_) (a' := ?_) #[true, true, true, true, true, true, true, true, true, true, true, true, true, true, true, true, true, true, true, true, false, false, false, false, false, false, false, false, false, false, false, false, false, false, false, false, false, false, false, false, false, false, false, false, false, false] rfl rfl (any_of HT_.out (by kernel_rfl)) (fun _ _ _ h => h) (Or.inl ⟨by rfl, ?_⟩) ?_ ?_
         rotate_left
         ·intro w'
          go_simp
          with_reducible rfl
         rotate_left
         ·simp only [Act.put, zT, z0, zS, i64_w, i32_w]
          rfl
         refine pure_ (i := 21) (N := some 87) (v := ?_) (a' := ?_) #[true, true, true, true, true, true, true, true, true, true, true, true, true, true, true, true, true, true, true, true, false, true, false, false, false, false, false, false, false, false, false, false, false, false, false, false, false, false, false, false, false, false, false, false, false, false] rfl rfl (any_of HT_.out (by kernel_rfl)) (fun _ _ _ h => h) (Or.inl ⟨by rfl, ?_⟩) ?_ ?_
         rotate_left
         ·intro w'
          go_simp
          with_reducible rfl
         rotate_left
         ·simp only [Act.put, zT, z0, zS, i64_w, i32_w]
          rfl
         refine take_ (i := 20) (N := some 86) (v := ?_) (a' := ?_) #[true, true, true, true, true, true, true, true, true, true, true, true, true, true, true, true, true, true, true, true, true, true, false, false, false, false, false, false, false, false, false, false, false, false, false, false, false, false, false, false, false, false, false, false, false, false] rfl rfl (take_ofW HT_.out HW_.out (by kernel_rfl)) (fun _ _ _ h => h) (Or.inl ⟨by rfl, ?_⟩) hHeld ?_ ?_
         rotate_left
         ·rintro w' ⟨s0, s1, s2, s3, s4, s5, s6, s7⟩
          go_simp
          with_reducible rfl
         rotate_left
         ·simp only [Act.put, zT, z0, zS, i64_w, i32_w]
          rfl
         refine take_ (i := 22) (N := some 88) (v := ?_) (a' := ?_) #[true, true, true, true, true, true, true, true, true, true, true, true, true, true, true, true, true, true, true, true, true, true, true, false, false, false, false, false, false, false, false, false, false, false, false, false, false, false, false, false, false, false, false, false, false, false] rfl rfl (take_ofW HT_.out HW_.out (by kernel_rfl)) (fun _ _ _ h => h) (Or.inl ⟨by rfl, ?_⟩) hHeld ?_ ?_
         rotate_left
         ·rintro w' ⟨s0, s1, s2, s3, s4, s5, s6, s7⟩
          go_simp
          with_reducible rfl
         rotate_left
         ·simp only [Act.put, zT, z0, zS, i64_w, i32_w]
          rfl
         refine pure_ (i := 23) (N := some 89) (v := ?_) (a' := ?_) #[true, true, true, true, true, true, true, true, true, true, true, true, true, true, true, true, true, true, true, true, true, true, true, true, false, false, false, false, false, false, false, false, false, false, false, false, false, false, false, false, false, false, false, false, false, false] rfl rfl (any_of HT_.out (by kernel_rfl)) (fun _ _ _ h => h) (Or.inl ⟨by rfl, ?_⟩) ?_ ?_
         rotate_left
         ·intro w'
          go_simp
          with_reducible rfl
         rotate_left
         ·simp only [Act.put, zT, z0, zS, i64_w, i32_w]
          rfl
         refine pure_ (i := 24) (N := some 90) (v := ?_) (a' := ?_) #[true, true, true, true, true, true, true, true, true, true, true, true, true, true, true, true, true, true, true, true, true, true, true, true, true, false, false, false, false, false, false, false, false, false, false, false, false, false, false, false, false, false, false, false, false, false] rfl rfl (any_of HT_.out (by kernel_rfl)) (fun _ _ _ h => h) (Or.inl ⟨by rfl, ?_⟩) ?_ ?_
         rotate_left
         ·intro w'
          go_simp
          with_reducible rfl
         rotate_left
         ·simp only [Act.put, zT, z0, zS, i64_w, i32_w]
          rfl
         refine pure_ (i := 25) (N := some 91) (v := ?_) (a' := ?_) #[true, true, true, true, true, true, true, true, true, true, true, true, true, true, true, true, true, true, true, true, true, true, true, true, true, true, false, false, false, false, false, false, false, false, false, false, false, false, false, false, false, false, false, false, false, false] rfl rfl (any_of HT_.out (by kernel_rfl)) (fun _ _ _ h => h) (Or.inl ⟨by rfl, ?_⟩) ?_ ?_
         rotate_left
         ·intro w'
          go_simp
          with_reducible rfl
         rotate_left
         ·simp only [Act.put, zT, z0, zS, i64_w, i32_w]
          rfl
         refine pure_ (i := 26) (N := some 92) (v := ?_) (a' := ?_) #[true, true, true, true, true, true, true, true, true, true, true, true, true, true, true, true, true, true, true, true, true, true, true, true, true, true, true, false, false, false, false, false, false, false, false, false, false, false, false, false, false, false, false, false, false, false] rfl rfl (any_of HT_.out (by kernel_rfl)) (fun _ _ _ h => h) (Or.inl ⟨by rfl, ?_⟩) ?_ ?_
         rotate_left
         ·intro w'
          go_simp
          with_reducible rfl
         rotate_left
         ·simp only [Act.put, zT, z0, zS, i64_w, i32_w]
          rfl
         refine pure_ (i := 28) (N := some 94) (v := ?_) (a' := ?_) #[true, true, true, true, true, true, true, true, true, true, true, true, true, true, true, true, true, true, true, true, true, true, true, true, true, true, true, false, true, false, false, false, false, false, false, false, false, false, false, false, false, false, false, false, false, false] rfl rfl (any_of HT_.out (by kernel_rfl)) (fun _ _ _ h => h) (Or.inl ⟨by rfl, ?_⟩) ?_ ?_
         rotate_left
         ·intro w'
          go_simp
          with_reducible rfl
         rotate_left
         ·simp only [Act.put, zT, z0, zS, i64_w, i32_w]
          rfl
         refine pure_ (i := 31) (N := some 97) (v := ?_) (a' := ?_) #[true, true, true, true, true, true, true, true, true, true, true, true, true, true, true, true, true, true, true, true, true, true, true, true, true, true, true, false, true, false, false, true, false, false, false, false, false, false, false, false, false, false, false, false, false, false] rfl rfl (any_of HT_.out (by kernel_rfl)) (fun _ _ _ h => h) (Or.inl ⟨by rfl, ?_⟩) ?_ ?_
         rotate_left
         ·intro w'
          go_simp
          with_reducible rfl
         rotate_left
         ·simp only [Act.put, zT, z0, zS, i64_w, i32_w]
          rfl
         refine take_ (i := 27) (N := some 93) (v := ?_) (a' := ?_) #[true, true, true, true, true, true, true, true, true, true, true, true, true, true, true, true, true, true, true, true, true, true, true, true, true, true, true, true, true, false, false, true, false, false, false, false, false, false, false, false, false, false, false, false, false, false] rfl rfl (take_ofW HT_.out HW_.out (by kernel_rfl)) (fun _ _ _ h => h) (Or.inl ⟨by rfl, ?_⟩) hHeld ?_ ?_
         rotate_left
         ·rintro w' ⟨s0, s1, s2, s3, s4, s5, s6, s7⟩
          go_simp
          with_reducible rfl
         rotate_left
         ·simp only [Act.put, zT, z0, zS, i64_w, i32_w]
          rfl
         refine take_ (i := 29) (N := some 95) (v := ?_) (a' := ?_) #[true, true, true, true, true, true, true, true, true, true, true, true, true, true, true, true, true, true, true, true, true, true, true, true, true, true, true, true, true, true, false, true, false, false, false, false, false, false, false, false, false, false, false, false, false, false] rfl rfl (take_ofW HT_.out HW_.out (by kernel_rfl)) (fun _ _ _ h => h) (Or.inl ⟨by rfl, ?_⟩) hHeld ?_ ?_
         rotate_left
         ·rintro w' ⟨s0, s1, s2, s3, s4, s5, s6, s7⟩
          go_simp
          with_reducible rfl
         rotate_left
         ·simp only [Act.put, zT, z0, zS, i64_w, i32_w]
          rfl
         refine pure_ (i := 30) (N := some 96) (v := ?_) (a' := ?_) #[true, true, true, true, true, true, true, true, true, true, true, true, true, true, true, true, true, true, true, true, true, true, true, true, true, true, true, true, true, true, true, true, false, false, false, false, false, false, false, false, false, false, false, false, false, false] rfl rfl (any_of HT_.out (by kernel_rfl)) (fun _ _ _ h => h) (Or.inl ⟨by rfl, ?_⟩) ?_ ?_
         rotate_left
         ·intro w'
          go_simp
          with_reducible rfl
         rotate_left
         ·simp only [Act.put, zT, z0, zS, i64_w, i32_w]
          rfl
         refine take_ (i := 32) (N := some 98) (v := ?_) (a' := ?_) #[true, true, true, true, true, true, true, true, true, true, true, true, true, true, true, true, true, true, true, true, true, true, true, true, true, true, true, true, true, true, true, true, true, false, false, false, false, false, false, false, false, false, false, false, false, false] rfl rfl (take_ofW HT_.out HW_.out (by kernel_rfl)) (fun _ _ _ h => h) (Or.inl ⟨by rfl, ?_⟩) hHeld ?_ ?_
         rotate_left
         ·rintro w' ⟨s0, s1, s2, s3, s4, s5, s6, s7⟩
          go_simp
          with_reducible rfl
         rotate_left
         ·simp only [Act.put, zT, z0, zS, i64_w, i32_w]
          rfl
         refine pure_ (i := 33) (N := some 99) (v := ?_) (a' := ?_) #[true, true, true, true, true, true, true, true, true, true, true, true, true, true, true, true, true, true, true, true, true, true, true, true, true, true, true, true, true, true, true, true, true, true, false, false, false, false, false, false, false, false, false, false, false, false] rfl rfl (any_of HT_.out (by kernel_rfl)) (fun _ _ _ h => h) (Or.inl ⟨by rfl, ?_⟩) ?_ ?_
         rotate_left
         ·intro w'
          go_simp
          with_reducible rfl
         rotate_left
         ·simp only [Act.put, zT, z0, zS, i64_w, i32_w]
          rfl
         refine pure_ (i := 34) (N := some 100) (v := ?_) (a' := ?_) #[true, true, true, true, true, true, true, true, true, true, true, true, true, true, true, true, true, true, true, true, true, true, true, true, true, true, true, true, true, true, true, true, true, true, true, false, false, false, false, false, false, false, false, false, false, false] rfl rfl (any_of HT_.out (by kernel_rfl)) (fun _ _ _ h => h) (Or.inl ⟨by rfl, ?_⟩) ?_ ?_
         rotate_left
         ·intro w'
          go_simp
          with_reducible rfl
         rotate_left
         ·simp only [Act.put, zT, z0, zS, i64_w, i32_w]
          rfl
         refine pure_ (i := 35) (N := some 101) (v := ?_) (a' := ?_) #[true, true, true, true, true, true, true, true, true, true, true, true, true, true, true, true, true, true, true, true, true, true, true, true, true, true, true, true, true, true, true, true, true, true, true, true, false, false, false, false, false, false, false, false, false, false] rfl rfl (any_of HT_.out (by kernel_rfl)) (fun _ _ _ h => h) (Or.inl ⟨by rfl, ?_⟩) ?_ ?_
         rotate_left
         ·intro w'
          go_simp
          with_reducible rfl
         rotate_left
         ·simp only [Act.put, zT, z0, zS, i64_w, i32_w]
          rfl
         refine pure_ (i := 36) (N := some 102) (v := ?_) (a' := ?_) #[true, true, true, true, true, true, true, true, true, true, true, true, true, true, true, true, true, true, true, true, true, true, true, true, true, true, true, true, true, true, true, true, true, true, true, true, true, false, false, false, false, false, false, false, false, false] rfl rfl (any_of HT_.out (by kernel_rfl)) (fun _ _ _ h => h) (Or.inl ⟨by rfl, ?_⟩) ?_ ?_
         rotate_left
         ·intro w'
          go_simp
          with_reducible rfl
         rotate_left
         ·simp only [Act.put, zT, z0, zS, i64_w, i32_w]
          rfl
         refine pure_ (i := 37) (N := some 103) (v := ?_) (a' := ?_) #[true, true, true, true, true, true, true, true, true, true, true, true, true, true, true, true, true, true, true, true, true, true, true, true, true, true, true, true, true, true, true, true, true, true, true, true, true, true, false, false, false, false, false, false, false, false] rfl rfl (any_of HT_.out (by kernel_rfl)) (fun _ _ _ h => h) (Or.inl ⟨by rfl, ?_⟩) ?_ ?_
         rotate_left
         ·intro w'
          go_simp
          with_reducible rfl
         rotate_left
         ·simp only [Act.put, zT, z0, zS, i64_w, i32_w]
          rfl
         refine pure_ (i := 38) (N := some 104) (v := ?_) (a' := ?_) #[true, true, true, true, true, true, true, true, true, true, true, true, true, true, true, true, true, true, true, true, true, true, true, true, true, true, true, true, true, true, true, true, true, true, true, true, true, true, true, false, false, false, false, false, false, false] rfl rfl (any_of HT_.out (by kernel_rfl)) (fun _ _ _ h => h) (Or.inl ⟨by rfl, ?_⟩) ?_ ?_
         rotate_left
         ·intro w'
          go_simp
          with_reducible rfl
         rotate_left
         ·simp only [Act.put, zT, z0, zS, i64_w, i32_w]
          rfl
         refine pure_ (i := 39) (N := some 105) (v := ?_) (a' := ?_) #[true, true, true, true, true, true, true, true, true, true, true, true, true, true, true, true, true, true, true, true, true, true, true, true, true, true, true, true, true, true, true, true, true, true, true, true, true, true, true, true, false, false, false, false, false, false] rfl rfl (any_of HT_.out (by kernel_rfl)) (fun _ _ _ h => h) (Or.inl ⟨by rfl, ?_⟩) ?_ ?_
         rotate_left
         ·intro w'
          go_simp
          with_reducible rfl
         rotate_left
         ·simp only [Act.put, zT, z0, zS, i64_w, i32_w]
          rfl
         refine take_ (i := 40) (N := some 106) (v := ?_) (a' := ?_) #[true, true, true, true, true, true, true, true, true, true, true, true, true, true, true, true, true, true, true, true, true, true, true, true, true, true, true, true, true, true, true, true, true, true, true, true, true, true, true, true, true, false, false, false, false, false] rfl rfl (take_ofW HT_.out HW_.out (by kernel_rfl)) (fun _ _ _ h => h) (Or.inl ⟨by rfl, ?_⟩) hHeld ?_ ?_
         rotate_left
         ·rintro w' ⟨s0, s1, s2, s3, s4, s5, s6, s7⟩
          go_simp
          with_reducible rfl
         rotate_left
         ·simp only [Act.put, zT, z0, zS, i64_w, i32_w]
          rfl
         refine take_ (i := 41) (N := some 107) (v := ?_) (a' := ?_) #[true, true, true, true, true, true, true, true, true, true, true, true, true, true, true, true, true, true, true, true, true, true, true, true, true, true, true, true, true, true, true, true, true, true, true, true, true, true, true, true, true, true, false, false, false, false] rfl rfl (take_ofW HT_.out HW_.out (by kernel_rfl)) (fun _ _ _ h => h) (Or.inl ⟨by rfl, ?_⟩) hHeld ?_ ?_
         rotate_left
         ·rintro w' ⟨s0, s1, s2, s3, s4, s5, s6, s7⟩
          go_simp
          with_reducible rfl
         rotate_left
         ·simp only [Act.put, zT, z0, zS, i64_w, i32_w]
          rfl
         refine one_ (i := 42) (N := some 108) #[true, true, true, true, true, true, true, true, true, true, true, true, true, true, true, true, true, true, true, true, true, true, true, true, true, true, true, true, true, true, true, true, true, true, true, true, true, true, true, true, true, true, true, false, false, false] rfl rfl (one_of HT_.out (by kernel_rfl)) (by decide) (fun K hK => ?_)
         refine goes_ Try.func15 (by kernel_rfl) rfl #[.agg #[.int .i64 a1_0, .int .i64 a1_1]] (by rfl) rfl rfl (by (try simp only [List.map_toArray, List.map_cons, List.map_nil]); first | done | rfl | (simp only [List.length_drop, List.length_take]; rfl)) ?_
         with_reducible refine (reredoslaw06_made.calls a1_0 a1_1 t139 t140 _ A18.out).mono ?_
         rintro e w56 ⟨rfl, hb⟩
         refine ⟨_, rfl, ?_⟩
         have n0_ := am (bB (g := gb120) (o := .cells #[.int .i64 a0_0, .int .i64 a0_1] 23 (0, 0)) (by (with_reducible repeat (first | refine bN ?_ _ | refine bD ?_ | refine bA ?_ _)); exact BK120.out) hb)
         have n1_ := am (bB (g := gb121) (o := .cells #[.int .i64 a1_0, .int .i64 a1_1] 23 (0, 0)) (by (with_reducible repeat (first | refine bN ?_ _ | refine bD ?_ | refine bA ?_ _)); exact BK121.out) hb)
         have n2_ := am (bB (g := gb125) (o := .cells #[.int .i64 t123, .int .i64 t124] 26 (0, 0)) (by (with_reducible repeat (first | refine bN ?_ _ | refine bD ?_ | refine bA ?_ _)); exact BK125.out) hb)
         have n3_ := am (bB (g := gb131) (o := .cells #[.int .i64 t128, .int .i64 t129] 26 (0, 0)) (by (with_reducible repeat (first | refine bN ?_ _ | refine bD ?_ | refine bA ?_ _)); exact BK131.out) hb)
         have n4_ := am (bB (g := gb132) (o := .cells #[.int .i64 (wrap64 (t123 + (wrap64 (a2)))), .int .i64 (wrap64 (t124 + (wrap64 (a2))))] 26 (0, 0)) (by (with_reducible repeat (first | refine bN ?_ _ | refine bD ?_ | refine bA ?_ _)); exact BK132.out) hb)
         have n5_ := am (bB (g := gb138) (o := .cells #[.int .i64 t135, .int .i64 t136] 26 (0, 0)) (by (with_reducible repeat (first | refine bN ?_ _ | refine bD ?_ | refine bA ?_ _)); exact BK138.out) hb)
         have n6_ := am (below_step (by repeat (first | (with_reducible first | exact HB.out | apply lA | apply lN | apply lD | refine below_set ?_ GE120.out | refine below_set ?_ GE121.out | refine below_set ?_ GE125.out | refine below_set ?_ GE131.out | refine below_set ?_ GE132.out | refine below_set ?_ GE138.out) | exact HB.out)) hb)
         clear BK120
         clear BK121
         clear BK125
         clear BK131
         clear BK132
         clear BK138
         clear HB
         have BK120 := n0_
         have BK121 := n1_
         have BK125 := n2_
         have BK131 := n3_
         have BK132 := n4_
         have BK138 := n5_
         have HB := n6_
         clear n0_ n1_ n2_ n3_ n4_ n5_ n6_
         (try clear hb)
         (try clear hb2)
         (try clear hk)
         (try clear hi)
         refine hK.out _ _ ⟨(blk_cell BK131.out 0).trans rfl, (blk_cell BK131.out 1).trans rfl, (blk_cell BK125.out 0).trans rfl, (blk_cell BK125.out 1).trans rfl, (blk_cell BK121.out 0).trans rfl, (blk_cell BK121.out 1).trans rfl, (blk_cell BK132.out 0).trans rfl, (blk_cell BK132.out 1).trans rfl⟩ (fun hHeld => ?_)
         clear hK K
         refine norm_ (a' := ?_) ?_ ?_
         rotate_left
         ·show Act.put _ (some 108) _ = _
          simp only [Act.put, zT, z0, zS, i64_w, i32_w]
          rfl
         refine one_ (i := 43) (N := some 109) #[true, true, true, true, true, true, true, true, true, true, true, true, true, true, true, true, true, true, true, true, true, true, true, true, true, true, true, true, true, true, true, true, true, true, true, true, true, true, true, true, true, true, true, true, false, false] rfl rfl (one_of HT_.out (by kernel_rfl)) (by decide) (fun K hK => ?_)
         refine goes_ Try.func16 (by kernel_rfl) rfl #[.agg #[.int .i64 (wrap64 (t123 + (wrap64 (a2)))), .int .i64 (wrap64 (t124 + (wrap64 (a2))))], .agg #[.int .i64 t139, .int .i64 t140]] (by rfl) rfl rfl (by (try simp only [List.map_toArray, List.map_cons, List.map_nil]); first | done | rfl | (simp only [List.length_drop, List.length_take]; rfl)) ?_
         with_reducible refine (budget_Budget_Can.calls (wrap64 (t123 + (wrap64 (a2)))) (wrap64 (t124 + (wrap64 (a2)))) t139 t140 t141 _ A19.out).mono ?_
         rintro e w57 ⟨rfl, hb⟩
         refine ⟨_, rfl, ?_⟩
         have n0_ := am (bB (g := gb120) (o := .cells #[.int .i64 a0_0, .int .i64 a0_1] 23 (0, 0)) (by (with_reducible repeat (first | refine bN ?_ _ | refine bD ?_ | refine bA ?_ _)); exact BK120.out) hb)
         have n1_ := am (bB (g := gb121) (o := .cells #[.int .i64 a1_0, .int .i64 a1_1] 23 (0, 0)) (by (with_reducible repeat (first | refine bN ?_ _ | refine bD ?_ | refine bA ?_ _)); exact BK121.out) hb)
         have n2_ := am (bB (g := gb125) (o := .cells #[.int .i64 t123, .int .i64 t124] 26 (0, 0)) (by (with_reducible repeat (first | refine bN ?_ _ | refine bD ?_ | refine bA ?_ _)); exact BK125.out) hb)
         have n3_ := am (bB (g := gb131) (o := .cells #[.int .i64 t128, .int .i64 t129] 26 (0, 0)) (by (with_reducible repeat (first | refine bN ?_ _ | refine bD ?_ | refine bA ?_ _)); exact BK131.out) hb)
         have n4_ := am (bB (g := gb132) (o := .cells #[.int .i64 (wrap64 (t123 + (wrap64 (a2)))), .int .i64 (wrap64 (t124 + (wrap64 (a2))))] 26 (0, 0)) (by (with_reducible repeat (first | refine bN ?_ _ | refine bD ?_ | refine bA ?_ _)); exact BK132.out) hb)
         have n5_ := am (bB (g := gb138) (o := .cells #[.int .i64 t135, .int .i64 t136] 26 (0, 0)) (by (with_reducible repeat (first | refine bN ?_ _ | refine bD ?_ | refine bA ?_ _)); exact BK138.out) hb)
         have n6_ := am (below_step (by repeat (first | (with_reducible first | exact HB.out | apply lA | apply lN | apply lD | refine below_set ?_ GE120.out | refine below_set ?_ GE121.out | refine below_set ?_ GE125.out | refine below_set ?_ GE131.out | refine below_set ?_ GE132.out | refine below_set ?_ GE138.out) | exact HB.out)) hb)
         clear BK120
         clear BK121
         clear BK125
         clear BK131
         clear BK132
         clear BK138
         clear HB
         have BK120 := n0_
         have BK121 := n1_
         have BK125 := n2_
         have BK131 := n3_
         have BK132 := n4_
         have BK138 := n5_
         have HB := n6_
         clear n0_ n1_ n2_ n3_ n4_ n5_ n6_
         (try clear hb)
         (try clear hb2)
         (try clear hk)
         (try clear hi)
         refine hK.out _ _ ⟨(blk_cell BK131.out 0).trans rfl, (blk_cell BK131.out 1).trans rfl, (blk_cell BK125.out 0).trans rfl, (blk_cell BK125.out 1).trans rfl, (blk_cell BK121.out 0).trans rfl, (blk_cell BK121.out 1).trans rfl, (blk_cell BK132.out 0).trans rfl, (blk_cell BK132.out 1).trans rfl⟩ (fun hHeld => ?_)
         clear hK K
         refine norm_ (a' := ?_) ?_ ?_
         rotate_left
         ·show Act.put _ (some 109) _ = _
          simp only [Act.put, zT, z0, zS, i64_w, i32_w]
          rfl
         refine pure_ (i := 44) (N := some 110) (v := ?_) (a' := ?_) #[true, true, true, true, true, true, true, true, true, true, true, true, true, true, true, true, true, true, true, true, true, true, true, true, true, true, true, true, true, true, true, true, true, true, true, true, true, true, true, true, true, true, true, true, true, false] rfl rfl (any_of HT_.out (by kernel_rfl)) (fun _ _ _ h => h) (Or.inl ⟨by rfl, ?_⟩) ?_ ?_
         rotate_left
         ·intro w'
          go_simp
          with_reducible rfl
         rotate_left
         ·simp only [Act.put, zT, z0, zS, i64_w, i32_w]
          rfl
         refine pure_ (i := 45) (N := some 6) (v := ?_) (a' := ?_) #[true, true, true, true, true, true, true, true, true, true, true, true, true, true, true, true, true, true, true, true, true, true, true, true, true, true, true, true, true, true, true, true, true, true, true, true, true, true, true, true, true, true, true, true, true, true] rfl rfl (any_of HT_.out (by kernel_rfl)) (fun _ _ _ h => h) (Or.inl ⟨by rfl, ?_⟩) ?_ ?_
         rotate_left
         ·intro w'
          go_simp
          with_reducible rfl
         rotate_left
         ·simp only [Act.put, zT, z0, zS, i64_w, i32_w]
          rfl
         refine done_ (done_of HT_.out (by kernel_rfl)) ?_
         try go_wp2
         go_ret
         exact ⟨by first | rfl | (simp [errW_none, errW_some] <;> rfl) | (simp [*, errW_none, errW_some] <;> rfl), by repeat (first | (with_reducible first | exact HB.out | apply lA | apply lN | apply lD | refine below_set ?_ GE120.out | refine below_set ?_ GE121.out | refine below_set ?_ GE125.out | refine below_set ?_ GE131.out | refine below_set ?_ GE132.out | refine below_set ?_ GE138.out) | exact HB.out)⟩
        ·rw [if_neg c17] at H
         exact absurd H (by simp)
       ·rw [if_neg c16] at H
        exact absurd H (by simp)
      ·rw [if_neg c15] at H
       exact absurd H (by simp)
     ·rw [if_neg c14] at H
      exact absurd H (by simp)
    ·rw [if_neg c13] at H
     exact absurd H (by simp)
   ·rw [if_neg c12] at H
    exact absurd H (by simp)
  ·replace c11 := Bool.eq_false_iff.mpr c11
   subst c11
   have H1 : (none) = some r := by rw [if_neg (show ¬ (false = true) by decide)] at H; exact H
   clear H
   have H := H1
   clear H1
   exact absurd H (by simp)
 ·rw [if_neg c8] at H
  have c8b0 : (t130 == 0) = false := beq_eq_false_iff_ne.mpr c8
  have c8b1 : (t130 != 0) = true := bne_iff_ne.mpr c8
  by_cases c58 : t122 = true
  ·subst c58
   have H1 : (if (t128 == 0 && (t129 == 0)) = true then (if a1_0 < 0 then (some ((t130 == 1) == true)) else (some ((t130 == 1) == (decide (a1_1 < 0))))) else (none)) = some r := by rw [if_pos rfl] at H; exact H
   clear H
   have H := H1
   clear H1
   by_cases c59 : (t128 == 0 && (t129 == 0)) = true
   ·rw [if_pos c59] at H
    have c59b0 : (t128 == 0 && (t129 == 0)) = true := c59
    (try (have c59b1 : decide (t128 = 0 && (t129 == 0)) = true := by simpa using c59))
    (try (have c59b2 : (t128 == 0 && (t129 == 0)) = true := by simpa using c59))
    clear c59
    by_cases c60 : a1_0 < 0
    ·rw [if_pos c60] at H
     have c60b0 : decide (a1_0 < 0) = true := decide_eq_true c60
     clear c60
     obtain rfl := Option.some.inj H
     go_enter Try.func3, Try.ntmps3
     try go_wp2_with (first | ((with_reducible refine gate_dst (N := 3) rfl ?_); refine box_event ?hg (N := 3) ?hd (cs := #[.int .i64 a0_0, .int .i64 a0_1]) (t := 23) ?hr ?_; (case hd => rfl); (case hg => rfl); (case hr => first | (go_simp; done) | (go_simp; rfl)); intro gb120 hg w61 hbox hb; have n0_ := am (below_step (by repeat (first | (with_reducible first | exact HB.out | apply lA | apply lN | apply lD) | exact HB.out)) hb); have n1_ := am (hbox); have n2_ := am ((by rw [hg]; exact (below_size (by repeat (first | (with_reducible first | exact HB.out | apply lA | apply lN | apply lD) | exact HB.out))) : w.heap.size ≤ gb120)); have n3_ := n2_; clear HB; have HB := n0_; have BK120 := n1_; have GW120 := n2_; have GE120 := n3_; clear n0_ n1_ n2_ n3_; clear hb hbox hg) | ((with_reducible refine gate_dst (N := 4) rfl ?_); refine box_event ?hg (N := 4) ?hd (cs := #[.int .i64 a1_0, .int .i64 a1_1]) (t := 23) ?hr ?_; (case hd => rfl); (case hg => rfl); (case hr => first | (go_simp; done) | (go_simp; rfl)); intro gb121 hg w62 hbox hb; have n0_ := am (bB (g := gb120) (o := .cells #[.int .i64 a0_0, .int .i64 a0_1] 23 (0, 0)) (by (with_reducible repeat (first | refine bN ?_ _ | refine bD ?_ | refine bA ?_ _)); exact BK120.out) hb); have n1_ := am (below_step (by repeat (first | (with_reducible first | exact HB.out | apply lA | apply lN | apply lD | refine below_set ?_ GE120.out) | exact HB.out)) hb); have n2_ := am (hbox); have n3_ := am ((by rw [hg]; exact (below_size (by repeat (first | (with_reducible first | exact HB.out | apply lA | apply lN | apply lD | refine below_set ?_ GE120.out) | exact HB.out))) : w.heap.size ≤ gb121)); have n4_ := n3_; have n5_ := am ((by rw [hg]; exact Nat.ne_of_lt (blk_lt (g := gb120) (o := .cells #[.int .i64 a0_0, .int .i64 a0_1] 23 (0, 0)) (by (with_reducible repeat (first | refine bN ?_ _ | refine bD ?_ | refine bA ?_ _)); exact BK120.out)) : gb120 ≠ gb121)); have n6_ := am ((by rw [hg]; exact Nat.ne_of_gt (blk_lt (g := gb120) (o := .cells #[.int .i64 a0_0, .int .i64 a0_1] 23 (0, 0)) (by (with_reducible repeat (first | refine bN ?_ _ | refine bD ?_ | refine bA ?_ _)); exact BK120.out)) : gb121 ≠ gb120)); clear BK120; clear HB; have BK120 := n0_; have HB := n1_; have BK121 := n2_; have GW121 := n3_; have GE121 := n4_; have NB120_121 := n5_; have NB121_120 := n6_; clear n0_ n1_ n2_ n3_ n4_ n5_ n6_; clear hb hbox hg) | ((with_reducible refine gate_callee (f := 12) rfl ?_); refine goesL_ (some 14) rfl rfl Try.func12 (by kernel_rfl) rfl #[] rfl (by (try simp only [List.map_toArray, List.map_cons, List.map_nil]); first | done | rfl | (simp only [List.length_drop, List.length_take]; rfl)) ?_; (with_reducible refine (reredoslaw06_shown.calls  true _ A4.out).mono ?_); rintro e w63 ⟨rfl, hb⟩; refine ⟨_, rfl, ?_⟩; have n0_ := am (bB (g := gb120) (o := .cells #[.int .i64 a0_0, .int .i64 a0_1] 23 (0, 0)) (by (with_reducible repeat (first | refine bN ?_ _ | refine bD ?_ | refine bA ?_ _)); exact BK120.out) hb); have n1_ := am (bB (g := gb121) (o := .cells #[.int .i64 a1_0, .int .i64 a1_1] 23 (0, 0)) (by (with_reducible repeat (first | refine bN ?_ _ | refine bD ?_ | refine bA ?_ _)); exact BK121.out) hb); have n2_ := am (below_step (by repeat (first | (with_reducible first | exact HB.out | apply lA | apply lN | apply lD | refine below_set ?_ GE120.out | refine below_set ?_ GE121.out) | exact HB.out)) hb); clear BK120; clear BK121; clear HB; have BK120 := n0_; have BK121 := n1_; have HB := n2_; clear n0_ n1_ n2_; (try clear hb); (try clear hb2); (try clear hk); (try clear hi); have hnb64 := NB120_121.out; have hnc64 := NB121_120.out; have hcz65_0 : w63.cell? ⟨gb120, 0, none⟩ = some (.int .i64 a0_0) := (blk_cell BK120.out 0).trans rfl; have hcz65_1 : w63.cell? ⟨gb120, 1, none⟩ = some (.int .i64 a0_1) := (blk_cell BK120.out 1).trans rfl; have hfz65_0 := blk_frozen BK120.out 0; have hfz65_1 := blk_frozen BK120.out 1) | ((with_reducible refine gate_callee (f := 13) rfl ?_); refine goesL_ (some 19) rfl rfl Try.func13 (by kernel_rfl) rfl #[.int .i64 a0_0, .int .i64 a0_1] rfl (by (try simp only [List.map_toArray, List.map_cons, List.map_nil]); first | done | rfl | (simp only [List.length_drop, List.length_take]; rfl)) ?_; (with_reducible refine (budget_New.calls a0_0 a0_1 t123 t124 _ A5.out).mono ?_); rintro e w66 ⟨rfl, hb⟩; refine ⟨_, rfl, ?_⟩; have n0_ := am (bB (g := gb120) (o := .cells #[.int .i64 a0_0, .int .i64 a0_1] 23 (0, 0)) (by (with_reducible repeat (first | refine bN ?_ _ | refine bD ?_ | refine bA ?_ _)); exact BK120.out) hb); have n1_ := am (bB (g := gb121) (o := .cells #[.int .i64 a1_0, .int .i64 a1_1] 23 (0, 0)) (by (with_reducible repeat (first | refine bN ?_ _ | refine bD ?_ | refine bA ?_ _)); exact BK121.out) hb); have n2_ := am (below_step (by repeat (first | (with_reducible first | exact HB.out | apply lA | apply lN | apply lD | refine below_set ?_ GE120.out | refine below_set ?_ GE121.out) | exact HB.out)) hb); clear BK120; clear BK121; clear HB; have BK120 := n0_; have BK121 := n1_; have HB := n2_; clear n0_ n1_ n2_; (try clear hb); (try clear hb2); (try clear hk); (try clear hi)) | ((with_reducible refine gate_dst (N := 8) rfl ?_); refine box_event ?hg (N := 8) ?hd (cs := #[.int .i64 0, .int .i64 0]) (t := 26) ?hr ?_; (case hd => rfl); (case hg => rfl); (case hr => first | (go_simp; done) | (go_simp; rfl)); intro gb125 hg w67 hbox hb; have n0_ := am (bB (g := gb120) (o := .cells #[.int .i64 a0_0, .int .i64 a0_1] 23 (0, 0)) (by (with_reducible repeat (first | refine bN ?_ _ | refine bD ?_ | refine bA ?_ _)); exact BK120.out) hb); have n1_ := am (bB (g := gb121) (o := .cells #[.int .i64 a1_0, .int .i64 a1_1] 23 (0, 0)) (by (with_reducible repeat (first | refine bN ?_ _ | refine bD ?_ | refine bA ?_ _)); exact BK121.out) hb); have n2_ := am (below_step (by repeat (first | (with_reducible first | exact HB.out | apply lA | apply lN | apply lD | refine below_set ?_ GE120.out | refine below_set ?_ GE121.out) | exact HB.out)) hb); have n3_ := am (hbox); have n4_ := am ((by rw [hg]; exact (below_size (by repeat (first | (with_reducible first | exact HB.out | apply lA | apply lN | apply lD | refine below_set ?_ GE120.out | refine below_set ?_ GE121.out) | exact HB.out))) : w.heap.size ≤ gb125)); have n5_ := n4_; have n6_ := am ((by rw [hg]; exact Nat.ne_of_lt (blk_lt (g := gb120) (o := .cells #[.int .i64 a0_0, .int .i64 a0_1] 23 (0, 0)) (by (with_reducible repeat (first | refine bN ?_ _ | refine bD ?_ | refine bA ?_ _)); exact BK120.out)) : gb120 ≠ gb125)); have n7_ := am ((by rw [hg]; exact Nat.ne_of_gt (blk_lt (g := gb120) (o := .cells #[.int .i64 a0_0, .int .i64 a0_1] 23 (0, 0)) (by (with_reducible repeat (first | refine bN ?_ _ | refine bD ?_ | refine bA ?_ _)); exact BK120.out)) : gb125 ≠ gb120)); have n8_ := am ((by rw [hg]; exact Nat.ne_of_lt (blk_lt (g := gb121) (o := .cells #[.int .i64 a1_0, .int .i64 a1_1] 23 (0, 0)) (by (with_reducible repeat (first | refine bN ?_ _ | refine bD ?_ | refine bA ?_ _)); exact BK121.out)) : gb121 ≠ gb125)); have n9_ := am ((by rw [hg]; exact Nat.ne_of_gt (blk_lt (g := gb121) (o := .cells #[.int .i64 a1_0, .int .i64 a1_1] 23 (0, 0)) (by (with_reducible repeat (first | refine bN ?_ _ | refine bD ?_ | refine bA ?_ _)); exact BK121.out)) : gb125 ≠ gb121)); clear BK120; clear BK121; clear HB; have BK120 := n0_; have BK121 := n1_; have HB := n2_; have BK125 := n3_; have GW125 := n4_; have GE125 := n5_; have NB120_125 := n6_; have NB125_120 := n7_; have NB121_125 := n8_; have NB125_121 := n9_; clear n0_ n1_ n2_ n3_ n4_ n5_ n6_ n7_ n8_ n9_; clear hb hbox hg; have hnb68 := NB125_120.out; have hnc68 := NB120_125.out; have hnb69 := NB125_121.out; have hnc69 := NB121_125.out; have hcz70_0 : w67.cell? ⟨gb125, 0, none⟩ = some (.int .i64 0) := (blk_cell BK125.out 0).trans rfl; have hcz70_1 : w67.cell? ⟨gb125, 1, none⟩ = some (.int .i64 0) := (blk_cell BK125.out 1).trans rfl; have hfz70_0 := blk_frozen BK125.out 0; have hfz70_1 := blk_frozen BK125.out 1))
     have n0_ : Aside0 (((w67.setCell ⟨gb125, 0, none⟩ (.int .i64 t123)).setCell ⟨gb125, 1, none⟩ (.int .i64 t124)).heap[gb120]? = some (.cells #[.int .i64 a0_0, .int .i64 a0_1] 23 (0, 0))) := ⟨by (with_reducible repeat (first | refine bN ?_ _ | refine bD ?_ | refine bA ?_ _)); refine blk_far ?_ NB120_125.out _; (with_reducible repeat (first | refine bN ?_ _ | refine bD ?_ | refine bA ?_ _)); refine blk_far ?_ NB120_125.out _; (with_reducible repeat (first | refine bN ?_ _ | refine bD ?_ | refine bA ?_ _)); exact BK120.out⟩
     have n1_ : Aside0 (((w67.setCell ⟨gb125, 0, none⟩ (.int .i64 t123)).setCell ⟨gb125, 1, none⟩ (.int .i64 t124)).heap[gb121]? = some (.cells #[.int .i64 a1_0, .int .i64 a1_1] 23 (0, 0))) := ⟨by (with_reducible repeat (first | refine bN ?_ _ | refine bD ?_ | refine bA ?_ _)); refine blk_far ?_ NB121_125.out _; (with_reducible repeat (first | refine bN ?_ _ | refine bD ?_ | refine bA ?_ _)); refine blk_far ?_ NB121_125.out _; (with_reducible repeat (first | refine bN ?_ _ | refine bD ?_ | refine bA ?_ _)); exact BK121.out⟩
     have n2_ : Aside0 (((w67.setCell ⟨gb125, 0, none⟩ (.int .i64 t123)).setCell ⟨gb125, 1, none⟩ (.int .i64 t124)).heap[gb125]? = some (.cells #[.int .i64 t123, .int .i64 t124] 26 (0, 0))) := ⟨by (with_reducible repeat (first | refine bN ?_ _ | refine bD ?_ | refine bA ?_ _)); refine blk_put (cs := #[.int .i64 t123, .int .i64 0]) ?_ 1 _ rfl; (with_reducible repeat (first | refine bN ?_ _ | refine bD ?_ | refine bA ?_ _)); refine blk_put (cs := #[.int .i64 0, .int .i64 0]) ?_ 0 _ rfl; (with_reducible repeat (first | refine bN ?_ _ | refine bD ?_ | refine bA ?_ _)); exact BK125.out⟩
     have n3_ : Aside0 (Below w.heap.size w ((w67.setCell ⟨gb125, 0, none⟩ (.int .i64 t123)).setCell ⟨gb125, 1, none⟩ (.int .i64 t124))) := ⟨by repeat (first | (with_reducible first | exact HB.out | apply lA | apply lN | apply lD | refine below_set ?_ GE120.out | refine below_set ?_ GE121.out | refine below_set ?_ GE125.out) | exact HB.out)⟩
     (try clear BK120)
     (try clear BK121)
     (try clear BK125)
     (try clear HB)
     generalize ((w67.setCell ⟨gb125, 0, none⟩ (.int .i64 t123)).setCell ⟨gb125, 1, none⟩ (.int .i64 t124)) = w71 at n0_ n1_ n2_ n3_ ⊢
     have BK120 := n0_
     have BK121 := n1_
     have BK125 := n2_
     have HB := n3_
     clear n0_ n1_ n2_ n3_
     have n0_ := am (bD BK120.out)
     have n1_ := am (bD BK121.out)
     have n2_ := am (bD BK125.out)
     have n3_ := am (lD HB.out)
     clear BK120
     clear BK121
     clear BK125
     clear HB
     have BK120 := n0_
     have BK121 := n1_
     have BK125 := n2_
     have HB := n3_
     clear n0_ n1_ n2_ n3_
     refine start_ (n := 10) (S := fun w' => w'.cell? ⟨gb125, 0, none⟩ = some (.int .i64 t123) ∧ w'.cell? ⟨gb125, 1, none⟩ = some (.int .i64 t124) ∧ w'.cell? ⟨gb121, 0, none⟩ = some (.int .i64 a1_0) ∧ w'.cell? ⟨gb121, 1, none⟩ = some (.int .i64 a1_1)) (ds := []) #[false, false, false, false, false, false, false, false, false, false] (by kernel_rfl) rfl rfl ⟨(blk_cell BK125.out 0).trans rfl, (blk_cell BK125.out 1).trans rfl, (blk_cell BK121.out 0).trans rfl, (blk_cell BK121.out 1).trans rfl⟩ (fun hHeld => ?_); refine with_tabW reredoslaw06_BudgetNever.tab3 reredoslaw06_BudgetNever.bits3 (fun HT_ HW_ => ?_)
     generalize w71.drew = w72 at BK120 BK121 BK125 HB hHeld ⊢
     refine take_ (i := 0) (N := some 21) (v := ?_) (a' := ?_) #[true, false, false, false, false, false, false, false, false, false] rfl rfl (take_ofW HT_.out HW_.out (by kernel_rfl)) (fun _ _ _ h => h) (Or.inl ⟨by rfl, ?_⟩) hHeld ?_ ?_
     rotate_left
     ·rintro w' ⟨s0, s1, s2, s3⟩
      go_simp
      with_reducible rfl
     rotate_left
     ·simp only [Act.put, zT, z0, zS, i64_w, i32_w]
      rfl
     refine take_ (i := 1) (N := some 22) (v := ?_) (a' := ?_) #[true, true, false, false, false, false, false, false, false, false] rfl rfl (take_ofW HT_.out HW_.out (by kernel_rfl)) (fun _ _ _ h => h) (Or.inl ⟨by rfl, ?_⟩) hHeld ?_ ?_
     rotate_left
     ·rintro w' ⟨s0, s1, s2, s3⟩
      go_simp
      with_reducible rfl
     rotate_left
     ·simp only [Act.put, zT, z0, zS, i64_w, i32_w]
      rfl
     refine join_ (σ := Nat) 2 #[true, true, true, true, true, true, true, true, false, false] (fun s_ => [(23, .agg #[.int .i64 t126, .int .i64 t127]), (24, .tuple #[.agg #[.int .i64 t128, .int .i64 t129], .int .i64 t130]), (9, .pointer (some ⟨s_, 0, none⟩)), (20, .tuple #[.agg #[.int .i64 t128, .int .i64 t129], .int .i64 t130]), (25, .agg #[.int .i64 t128, .int .i64 t129]), (26, .int .i64 t130)]) (fun s_ w' => (w'.cell? ⟨gb125, 0, none⟩ = some (.int .i64 t123) ∧ w'.cell? ⟨gb125, 1, none⟩ = some (.int .i64 t124) ∧ w'.cell? ⟨gb121, 0, none⟩ = some (.int .i64 a1_0) ∧ w'.cell? ⟨gb121, 1, none⟩ = some (.int .i64 a1_1)) ∧ (w'.heap[gb120]? = some (.cells #[.int .i64 a0_0, .int .i64 a0_1] 23 (0, 0))) ∧ (w'.heap[gb121]? = some (.cells #[.int .i64 a1_0, .int .i64 a1_1] 23 (0, 0))) ∧ (w'.heap[gb125]? = some (.cells #[.int .i64 t123, .int .i64 t124] 26 (0, 0))) ∧ (w'.heap[s_]? = some (.cells #[.int .i64 0, .int .i64 0] 26 (0, 0))) ∧ (w.heap.size ≤ s_) ∧ (w.heap.size ≤ s_) ∧ (gb120 ≠ s_) ∧ (s_ ≠ gb120) ∧ (gb121 ≠ s_) ∧ (s_ ≠ gb121) ∧ (gb125 ≠ s_) ∧ (s_ ≠ gb125) ∧ (Below w.heap.size w w')) ?_ ?_
     rotate_left
     ·intro hCont
      refine two_ (i := 2) (j := 7) (Ni := some 23) (Nj := some 9) #[true, true, true, false, false, false, false, false, false, false] #[true, true, false, false, false, false, false, true, false, false] rfl rfl rfl rfl (two_of HT_.out (by kernel_rfl)) (by decide) (by decide) (fun K hK => ?_) (fun K hK => ?_)
      ·skip
       refine goes_ Try.func15 (by kernel_rfl) rfl #[.agg #[.int .i64 a1_0, .int .i64 a1_1]] (by rfl) rfl rfl (by (try simp only [List.map_toArray, List.map_cons, List.map_nil]); first | done | rfl | (simp only [List.length_drop, List.length_take]; rfl)) ?_
       with_reducible refine (reredoslaw06_made.calls a1_0 a1_1 t126 t127 _ A6.out).mono ?_
       rintro e w73 ⟨rfl, hb⟩
       refine ⟨_, rfl, ?_⟩
       have n0_ := am (bB (g := gb120) (o := .cells #[.int .i64 a0_0, .int .i64 a0_1] 23 (0, 0)) (by (with_reducible repeat (first | refine bN ?_ _ | refine bD ?_ | refine bA ?_ _)); exact BK120.out) hb)
       have n1_ := am (bB (g := gb121) (o := .cells #[.int .i64 a1_0, .int .i64 a1_1] 23 (0, 0)) (by (with_reducible repeat (first | refine bN ?_ _ | refine bD ?_ | refine bA ?_ _)); exact BK121.out) hb)
       have n2_ := am (bB (g := gb125) (o := .cells #[.int .i64 t123, .int .i64 t124] 26 (0, 0)) (by (with_reducible repeat (first | refine bN ?_ _ | refine bD ?_ | refine bA ?_ _)); exact BK125.out) hb)
       have n3_ := am (below_step (by repeat (first | (with_reducible first | exact HB.out | apply lA | apply lN | apply lD | refine below_set ?_ GE120.out | refine below_set ?_ GE121.out | refine below_set ?_ GE125.out) | exact HB.out)) hb)
       clear BK120
       clear BK121
       clear BK125
       clear HB
       have BK120 := n0_
       have BK121 := n1_
       have BK125 := n2_
       have HB := n3_
       clear n0_ n1_ n2_ n3_
       (try clear hb)
       (try clear hb2)
       (try clear hk)
       (try clear hi)
       refine hK.out _ _ ⟨(blk_cell BK125.out 0).trans rfl, (blk_cell BK125.out 1).trans rfl, (blk_cell BK121.out 0).trans rfl, (blk_cell BK121.out 1).trans rfl⟩ (fun hHeld => ?_)
       clear hK K
       refine norm_ (a' := ?_) ?_ ?_
       rotate_left
       ·show Act.put _ (some 23) _ = _
        simp only [Act.put, zT, z0, zS, i64_w, i32_w]
        rfl
       refine two_ (i := 3) (j := 7) (Ni := some 24) (Nj := some 9) #[true, true, true, true, false, false, false, false, false, false] #[true, true, true, false, false, false, false, true, false, false] rfl rfl rfl rfl (two_of HT_.out (by kernel_rfl)) (by decide) (by decide) (fun K hK => ?_) (fun K hK => ?_)
       ·skip
        refine goes_ Try.func14 (by kernel_rfl) rfl #[.agg #[.int .i64 t123, .int .i64 t124], .agg #[.int .i64 t126, .int .i64 t127]] (by rfl) rfl rfl (by (try simp only [List.map_toArray, List.map_cons, List.map_nil]); first | done | rfl | (simp only [List.length_drop, List.length_take]; rfl)) ?_
        with_reducible refine (budget_Budget_Pay.calls t123 t124 t126 t127 t128 t129 t130 _ A7.out).mono ?_
        rintro e w74 ⟨rfl, hb⟩
        refine ⟨_, rfl, ?_⟩
        have n0_ := am (bB (g := gb120) (o := .cells #[.int .i64 a0_0, .int .i64 a0_1] 23 (0, 0)) (by (with_reducible repeat (first | refine bN ?_ _ | refine bD ?_ | refine bA ?_ _)); exact BK120.out) hb)
        have n1_ := am (bB (g := gb121) (o := .cells #[.int .i64 a1_0, .int .i64 a1_1] 23 (0, 0)) (by (with_reducible repeat (first | refine bN ?_ _ | refine bD ?_ | refine bA ?_ _)); exact BK121.out) hb)
        have n2_ := am (bB (g := gb125) (o := .cells #[.int .i64 t123, .int .i64 t124] 26 (0, 0)) (by (with_reducible repeat (first | refine bN ?_ _ | refine bD ?_ | refine bA ?_ _)); exact BK125.out) hb)
        have n3_ := am (below_step (by repeat (first | (with_reducible first | exact HB.out | apply lA | apply lN | apply lD | refine below_set ?_ GE120.out | refine below_set ?_ GE121.out | refine below_set ?_ GE125.out) | exact HB.out)) hb)
        clear BK120
        clear BK121
        clear BK125
        clear HB
        have BK120 := n0_
        have BK121 := n1_
        have BK125 := n2_
        have HB := n3_
        clear n0_ n1_ n2_ n3_
        (try clear hb)
        (try clear hb2)
        (try clear hk)
        (try clear hi)
        refine hK.out _ _ ⟨(blk_cell BK125.out 0).trans rfl, (blk_cell BK125.out 1).trans rfl, (blk_cell BK121.out 0).trans rfl, (blk_cell BK121.out 1).trans rfl⟩ (fun hHeld => ?_)
        clear hK K
        refine norm_ (a' := ?_) ?_ ?_
        rotate_left
        ·show Act.put _ (some 24) _ = _
         simp only [Act.put, zT, z0, zS, i64_w, i32_w]
         rfl
        refine pure_ (i := 4) (N := some 20) (v := ?_) (a' := ?_) #[true, true, true, true, true, false, false, false, false, false] rfl rfl (any_of HT_.out (by kernel_rfl)) (fun _ _ _ h => h) (Or.inl ⟨by rfl, ?_⟩) ?_ ?_
        rotate_left
        ·intro w'
         go_simp
         with_reducible rfl
        rotate_left
        ·simp only [Act.put, zT, z0, zS, i64_w, i32_w]
         rfl
        refine pure_ (i := 5) (N := some 25) (v := ?_) (a' := ?_) #[true, true, true, true, true, true, false, false, false, false] rfl rfl (any_of HT_.out (by kernel_rfl)) (fun _ _ _ h => h) (Or.inl ⟨by rfl, ?_⟩) ?_ ?_
        rotate_left
        ·intro w'
         go_simp
         with_reducible rfl
        rotate_left
        ·simp only [Act.put, zT, z0, zS, i64_w, i32_w]
         rfl
        refine pure_ (i := 6) (N := some 26) (v := ?_) (a' := ?_) #[true, true, true, true, true, true, true, false, false, false] rfl rfl (any_of HT_.out (by kernel_rfl)) (fun _ _ _ h => h) (Or.inl ⟨by rfl, ?_⟩) ?_ ?_
        rotate_left
        ·intro w'
         go_simp
         with_reducible rfl
        rotate_left
        ·simp only [Act.put, zT, z0, zS, i64_w, i32_w]
         rfl
        refine one_ (i := 7) (N := some 9) #[true, true, true, true, true, true, true, true, false, false] rfl rfl (one_of HT_.out (by kernel_rfl)) (by decide) (fun K hK => ?_)
        refine box_step ?hg (N := 9) ?hd (cs := #[.int .i64 0, .int .i64 0]) (t := 26) ?hr ?_; (case hd => rfl); (case hg => rfl); (case hr => first | (go_simp; done) | (go_simp; rfl))
        intro gb131 hg w75 hbox hb
        have n0_ := am (bB (g := gb120) (o := .cells #[.int .i64 a0_0, .int .i64 a0_1] 23 (0, 0)) (by (with_reducible repeat (first | refine bN ?_ _ | refine bD ?_ | refine bA ?_ _)); exact BK120.out) hb)
        have n1_ := am (bB (g := gb121) (o := .cells #[.int .i64 a1_0, .int .i64 a1_1] 23 (0, 0)) (by (with_reducible repeat (first | refine bN ?_ _ | refine bD ?_ | refine bA ?_ _)); exact BK121.out) hb)
        have n2_ := am (bB (g := gb125) (o := .cells #[.int .i64 t123, .int .i64 t124] 26 (0, 0)) (by (with_reducible repeat (first | refine bN ?_ _ | refine bD ?_ | refine bA ?_ _)); exact BK125.out) hb)
        have n3_ := am (below_step (by repeat (first | (with_reducible first | exact HB.out | apply lA | apply lN | apply lD | refine below_set ?_ GE120.out | refine below_set ?_ GE121.out | refine below_set ?_ GE125.out) | exact HB.out)) hb)
        have n4_ := am (hbox)
        have n5_ := am ((by rw [hg]; exact (below_size (by repeat (first | (with_reducible first | exact HB.out | apply lA | apply lN | apply lD | refine below_set ?_ GE120.out | refine below_set ?_ GE121.out | refine below_set ?_ GE125.out) | exact HB.out))) : w.heap.size ≤ gb131))
        have n6_ := n5_
        have n7_ := am ((by rw [hg]; exact Nat.ne_of_lt (blk_lt (g := gb120) (o := .cells #[.int .i64 a0_0, .int .i64 a0_1] 23 (0, 0)) (by (with_reducible repeat (first | refine bN ?_ _ | refine bD ?_ | refine bA ?_ _)); exact BK120.out)) : gb120 ≠ gb131))
        have n8_ := am ((by rw [hg]; exact Nat.ne_of_gt (blk_lt (g := gb120) (o := .cells #[.int .i64 a0_0, .int .i64 a0_1] 23 (0, 0)) (by (with_reducible repeat (first | refine bN ?_ _ | refine bD ?_ | refine bA ?_ _)); exact BK120.out)) : gb131 ≠ gb120))
        have n9_ := am ((by rw [hg]; exact Nat.ne_of_lt (blk_lt (g := gb121) (o := .cells #[.int .i64 a1_0, .int .i64 a1_1] 23 (0, 0)) (by (with_reducible repeat (first | refine bN ?_ _ | refine bD ?_ | refine bA ?_ _)); exact BK121.out)) : gb121 ≠ gb131))
        have n10_ := am ((by rw [hg]; exact Nat.ne_of_gt (blk_lt (g := gb121) (o := .cells #[.int .i64 a1_0, .int .i64 a1_1] 23 (0, 0)) (by (with_reducible repeat (first | refine bN ?_ _ | refine bD ?_ | refine bA ?_ _)); exact BK121.out)) : gb131 ≠ gb121))
        have n11_ := am ((by rw [hg]; exact Nat.ne_of_lt (blk_lt (g := gb125) (o := .cells #[.int .i64 t123, .int .i64 t124] 26 (0, 0)) (by (with_reducible repeat (first | refine bN ?_ _ | refine bD ?_ | refine bA ?_ _)); exact BK125.out)) : gb125 ≠ gb131))
        have n12_ := am ((by rw [hg]; exact Nat.ne_of_gt (blk_lt (g := gb125) (o := .cells #[.int .i64 t123, .int .i64 t124] 26 (0, 0)) (by (with_reducible repeat (first | refine bN ?_ _ | refine bD ?_ | refine bA ?_ _)); exact BK125.out)) : gb131 ≠ gb125))
        clear BK120
        clear BK121
        clear BK125
        clear HB
        have BK120 := n0_
        have BK121 := n1_
        have BK125 := n2_
        have HB := n3_
        have BK131 := n4_
        have GW131 := n5_
        have GE131 := n6_
        have NB120_131 := n7_
        have NB131_120 := n8_
        have NB121_131 := n9_
        have NB131_121 := n10_
        have NB125_131 := n11_
        have NB131_125 := n12_
        clear n0_ n1_ n2_ n3_ n4_ n5_ n6_ n7_ n8_ n9_ n10_ n11_ n12_
        clear hb hbox hg
        refine hK.out _ _ ⟨(blk_cell BK125.out 0).trans rfl, (blk_cell BK125.out 1).trans rfl, (blk_cell BK121.out 0).trans rfl, (blk_cell BK121.out 1).trans rfl⟩ (fun hHeld => ?_)
        clear hK K
        refine norm_ (a' := ?_) ?_ ?_
        rotate_left
        ·show Act.put _ (some 9) _ = _
         simp only [Act.put, zT, z0, zS, i64_w, i32_w]
         rfl
        exact norm_ (by simp only [putAll, Act.put, zT, z0, zS]) (hCont (gb131) _ ⟨hHeld, (by (with_reducible repeat (first | refine bN ?_ _ | refine bD ?_ | refine bA ?_ _)); exact BK120.out), (by (with_reducible repeat (first | refine bN ?_ _ | refine bD ?_ | refine bA ?_ _)); exact BK121.out), (by (with_reducible repeat (first | refine bN ?_ _ | refine bD ?_ | refine bA ?_ _)); exact BK125.out), (by (with_reducible repeat (first | refine bN ?_ _ | refine bD ?_ | refine bA ?_ _)); exact BK131.out), GW131.out, GE131.out, NB120_131.out, NB131_120.out, NB121_131.out, NB131_121.out, NB125_131.out, NB131_125.out, (by repeat (first | (with_reducible first | exact HB.out | apply lA | apply lN | apply lD | refine below_set ?_ GE120.out | refine below_set ?_ GE121.out | refine below_set ?_ GE125.out | refine below_set ?_ GE131.out) | exact HB.out))⟩)
       ·skip
        refine box_step ?hg (N := 9) ?hd (cs := #[.int .i64 0, .int .i64 0]) (t := 26) ?hr ?_; (case hd => rfl); (case hg => rfl); (case hr => first | (go_simp; done) | (go_simp; rfl))
        intro gb131 hg w74 hbox hb
        have n0_ := am (bB (g := gb120) (o := .cells #[.int .i64 a0_0, .int .i64 a0_1] 23 (0, 0)) (by (with_reducible repeat (first | refine bN ?_ _ | refine bD ?_ | refine bA ?_ _)); exact BK120.out) hb)
        have n1_ := am (bB (g := gb121) (o := .cells #[.int .i64 a1_0, .int .i64 a1_1] 23 (0, 0)) (by (with_reducible repeat (first | refine bN ?_ _ | refine bD ?_ | refine bA ?_ _)); exact BK121.out) hb)
        have n2_ := am (bB (g := gb125) (o := .cells #[.int .i64 t123, .int .i64 t124] 26 (0, 0)) (by (with_reducible repeat (first | refine bN ?_ _ | refine bD ?_ | refine bA ?_ _)); exact BK125.out) hb)
        have n3_ := am (below_step (by repeat (first | (with_reducible first | exact HB.out | apply lA | apply lN | apply lD | refine below_set ?_ GE120.out | refine below_set ?_ GE121.out | refine below_set ?_ GE125.out) | exact HB.out)) hb)
        have n4_ := am (hbox)
        have n5_ := am ((by rw [hg]; exact (below_size (by repeat (first | (with_reducible first | exact HB.out | apply lA | apply lN | apply lD | refine below_set ?_ GE120.out | refine below_set ?_ GE121.out | refine below_set ?_ GE125.out) | exact HB.out))) : w.heap.size ≤ gb131))
        have n6_ := n5_
        have n7_ := am ((by rw [hg]; exact Nat.ne_of_lt (blk_lt (g := gb120) (o := .cells #[.int .i64 a0_0, .int .i64 a0_1] 23 (0, 0)) (by (with_reducible repeat (first | refine bN ?_ _ | refine bD ?_ | refine bA ?_ _)); exact BK120.out)) : gb120 ≠ gb131))
        have n8_ := am ((by rw [hg]; exact Nat.ne_of_gt (blk_lt (g := gb120) (o := .cells #[.int .i64 a0_0, .int .i64 a0_1] 23 (0, 0)) (by (with_reducible repeat (first | refine bN ?_ _ | refine bD ?_ | refine bA ?_ _)); exact BK120.out)) : gb131 ≠ gb120))
        have n9_ := am ((by rw [hg]; exact Nat.ne_of_lt (blk_lt (g := gb121) (o := .cells #[.int .i64 a1_0, .int .i64 a1_1] 23 (0, 0)) (by (with_reducible repeat (first | refine bN ?_ _ | refine bD ?_ | refine bA ?_ _)); exact BK121.out)) : gb121 ≠ gb131))
        have n10_ := am ((by rw [hg]; exact Nat.ne_of_gt (blk_lt (g := gb121) (o := .cells #[.int .i64 a1_0, .int .i64 a1_1] 23 (0, 0)) (by (with_reducible repeat (first | refine bN ?_ _ | refine bD ?_ | refine bA ?_ _)); exact BK121.out)) : gb131 ≠ gb121))
        have n11_ := am ((by rw [hg]; exact Nat.ne_of_lt (blk_lt (g := gb125) (o := .cells #[.int .i64 t123, .int .i64 t124] 26 (0, 0)) (by (with_reducible repeat (first | refine bN ?_ _ | refine bD ?_ | refine bA ?_ _)); exact BK125.out)) : gb125 ≠ gb131))
        have n12_ := am ((by rw [hg]; exact Nat.ne_of_gt (blk_lt (g := gb125) (o := .cells #[.int .i64 t123, .int .i64 t124] 26 (0, 0)) (by (with_reducible repeat (first | refine bN ?_ _ | refine bD ?_ | refine bA ?_ _)); exact BK125.out)) : gb131 ≠ gb125))
        clear BK120
        clear BK121
        clear BK125
        clear HB
        have BK120 := n0_
        have BK121 := n1_
        have BK125 := n2_
        have HB := n3_
        have BK131 := n4_
        have GW131 := n5_
        have GE131 := n6_
        have NB120_131 := n7_
        have NB131_120 := n8_
        have NB121_131 := n9_
        have NB131_121 := n10_
        have NB125_131 := n11_
        have NB131_125 := n12_
        clear n0_ n1_ n2_ n3_ n4_ n5_ n6_ n7_ n8_ n9_ n10_ n11_ n12_
        clear hb hbox hg
        refine hK.out _ _ ⟨(blk_cell BK125.out 0).trans rfl, (blk_cell BK125.out 1).trans rfl, (blk_cell BK121.out 0).trans rfl, (blk_cell BK121.out 1).trans rfl⟩ (fun hHeld => ?_)
        clear hK K
        refine norm_ (a' := ?_) ?_ ?_
        rotate_left
        ·show Act.put _ (some 9) _ = _
         simp only [Act.put, zT, z0, zS, i64_w, i32_w]
         rfl
        refine one_ (i := 3) (N := some 24) #[true, true, true, true, false, false, false, true, false, false] rfl rfl (one_of HT_.out (by kernel_rfl)) (by decide) (fun K hK => ?_)
        refine goes_ Try.func14 (by kernel_rfl) rfl #[.agg #[.int .i64 t123, .int .i64 t124], .agg #[.int .i64 t126, .int .i64 t127]] (by rfl) rfl rfl (by (try simp only [List.map_toArray, List.map_cons, List.map_nil]); first | done | rfl | (simp only [List.length_drop, List.length_take]; rfl)) ?_
        with_reducible refine (budget_Budget_Pay.calls t123 t124 t126 t127 t128 t129 t130 _ A7.out).mono ?_
        rintro e w75 ⟨rfl, hb⟩
        refine ⟨_, rfl, ?_⟩
        have n0_ := am (bB (g := gb120) (o := .cells #[.int .i64 a0_0, .int .i64 a0_1] 23 (0, 0)) (by (with_reducible repeat (first | refine bN ?_ _ | refine bD ?_ | refine bA ?_ _)); exact BK120.out) hb)
        have n1_ := am (bB (g := gb121) (o := .cells #[.int .i64 a1_0, .int .i64 a1_1] 23 (0, 0)) (by (with_reducible repeat (first | refine bN ?_ _ | refine bD ?_ | refine bA ?_ _)); exact BK121.out) hb)
        have n2_ := am (bB (g := gb125) (o := .cells #[.int .i64 t123, .int .i64 t124] 26 (0, 0)) (by (with_reducible repeat (first | refine bN ?_ _ | refine bD ?_ | refine bA ?_ _)); exact BK125.out) hb)
        have n3_ := am (bB (g := gb131) (o := .cells #[.int .i64 0, .int .i64 0] 26 (0, 0)) (by (with_reducible repeat (first | refine bN ?_ _ | refine bD ?_ | refine bA ?_ _)); exact BK131.out) hb)
        have n4_ := am (below_step (by repeat (first | (with_reducible first | exact HB.out | apply lA | apply lN | apply lD | refine below_set ?_ GE120.out | refine below_set ?_ GE121.out | refine below_set ?_ GE125.out | refine below_set ?_ GE131.out) | exact HB.out)) hb)
        clear BK120
        clear BK121
        clear BK125
        clear BK131
        clear HB
        have BK120 := n0_
        have BK121 := n1_
        have BK125 := n2_
        have BK131 := n3_
        have HB := n4_
        clear n0_ n1_ n2_ n3_ n4_
        (try clear hb)
        (try clear hb2)
        (try clear hk)
        (try clear hi)
        refine hK.out _ _ ⟨(blk_cell BK125.out 0).trans rfl, (blk_cell BK125.out 1).trans rfl, (blk_cell BK121.out 0).trans rfl, (blk_cell BK121.out 1).trans rfl⟩ (fun hHeld => ?_)
        clear hK K
        refine norm_ (a' := ?_) ?_ ?_
        rotate_left
        ·show Act.put _ (some 24) _ = _
         simp only [Act.put, zT, z0, zS, i64_w, i32_w]
         rfl
        refine pure_ (i := 4) (N := some 20) (v := ?_) (a' := ?_) #[true, true, true, true, true, false, false, true, false, false] rfl rfl (any_of HT_.out (by kernel_rfl)) (fun _ _ _ h => h) (Or.inl ⟨by rfl, ?_⟩) ?_ ?_
        rotate_left
        ·intro w'
         go_simp
         with_reducible rfl
        rotate_left
        ·simp only [Act.put, zT, z0, zS, i64_w, i32_w]
         rfl
        refine pure_ (i := 5) (N := some 25) (v := ?_) (a' := ?_) #[true, true, true, true, true, true, false, true, false, false] rfl rfl (any_of HT_.out (by kernel_rfl)) (fun _ _ _ h => h) (Or.inl ⟨by rfl, ?_⟩) ?_ ?_
        rotate_left
        ·intro w'
         go_simp
         with_reducible rfl
        rotate_left
        ·simp only [Act.put, zT, z0, zS, i64_w, i32_w]
         rfl
        refine pure_ (i := 6) (N := some 26) (v := ?_) (a' := ?_) #[true, true, true, true, true, true, true, true, false, false] rfl rfl (any_of HT_.out (by kernel_rfl)) (fun _ _ _ h => h) (Or.inl ⟨by rfl, ?_⟩) ?_ ?_
        rotate_left
        ·intro w'
         go_simp
         with_reducible rfl
        rotate_left
        ·simp only [Act.put, zT, z0, zS, i64_w, i32_w]
         rfl
        exact norm_ (by simp only [putAll, Act.put, zT, z0, zS]) (hCont (gb131) _ ⟨hHeld, (by (with_reducible repeat (first | refine bN ?_ _ | refine bD ?_ | refine bA ?_ _)); exact BK120.out), (by (with_reducible repeat (first | refine bN ?_ _ | refine bD ?_ | refine bA ?_ _)); exact BK121.out), (by (with_reducible repeat (first | refine bN ?_ _ | refine bD ?_ | refine bA ?_ _)); exact BK125.out), (by (with_reducible repeat (first | refine bN ?_ _ | refine bD ?_ | refine bA ?_ _)); exact BK131.out), GW131.out, GE131.out, NB120_131.out, NB131_120.out, NB121_131.out, NB131_121.out, NB125_131.out, NB131_125.out, (by repeat (first | (with_reducible first | exact HB.out | apply lA | apply lN | apply lD | refine below_set ?_ GE120.out | refine below_set ?_ GE121.out | refine below_set ?_ GE125.out | refine below_set ?_ GE131.out) | exact HB.out))⟩)
      ·skip
       refine box_step ?hg (N := 9) ?hd (cs := #[.int .i64 0, .int .i64 0]) (t := 26) ?hr ?_; (case hd => rfl); (case hg => rfl); (case hr => first | (go_simp; done) | (go_simp; rfl))
       intro gb131 hg w73 hbox hb
       have n0_ := am (bB (g := gb120) (o := .cells #[.int .i64 a0_0, .int .i64 a0_1] 23 (0, 0)) (by (with_reducible repeat (first | refine bN ?_ _ | refine bD ?_ | refine bA ?_ _)); exact BK120.out) hb)
       have n1_ := am (bB (g := gb121) (o := .cells #[.int .i64 a1_0, .int .i64 a1_1] 23 (0, 0)) (by (with_reducible repeat (first | refine bN ?_ _ | refine bD ?_ | refine bA ?_ _)); exact BK121.out) hb)
       have n2_ := am (bB (g := gb125) (o := .cells #[.int .i64 t123, .int .i64 t124] 26 (0, 0)) (by (with_reducible repeat (first | refine bN ?_ _ | refine bD ?_ | refine bA ?_ _)); exact BK125.out) hb)
       have n3_ := am (below_step (by repeat (first | (with_reducible first | exact HB.out | apply lA | apply lN | apply lD | refine below_set ?_ GE120.out | refine below_set ?_ GE121.out | refine below_set ?_ GE125.out) | exact HB.out)) hb)
       have n4_ := am (hbox)
       have n5_ := am ((by rw [hg]; exact (below_size (by repeat (first | (with_reducible first | exact HB.out | apply lA | apply lN | apply lD | refine below_set ?_ GE120.out | refine below_set ?_ GE121.out | refine below_set ?_ GE125.out) | exact HB.out))) : w.heap.size ≤ gb131))
       have n6_ := n5_
       have n7_ := am ((by rw [hg]; exact Nat.ne_of_lt (blk_lt (g := gb120) (o := .cells #[.int .i64 a0_0, .int .i64 a0_1] 23 (0, 0)) (by (with_reducible repeat (first | refine bN ?_ _ | refine bD ?_ | refine bA ?_ _)); exact BK120.out)) : gb120 ≠ gb131))
       have n8_ := am ((by rw [hg]; exact Nat.ne_of_gt (blk_lt (g := gb120) (o := .cells #[.int .i64 a0_0, .int .i64 a0_1] 23 (0, 0)) (by (with_reducible repeat (first | refine bN ?_ _ | refine bD ?_ | refine bA ?_ _)); exact BK120.out)) : gb131 ≠ gb120))
       have n9_ := am ((by rw [hg]; exact Nat.ne_of_lt (blk_lt (g := gb121) (o := .cells #[.int .i64 a1_0, .int .i64 a1_1] 23 (0, 0)) (by (with_reducible repeat (first | refine bN ?_ _ | refine bD ?_ | refine bA ?_ _)); exact BK121.out)) : gb121 ≠ gb131))
       have n10_ := am ((by rw [hg]; exact Nat.ne_of_gt (blk_lt (g := gb121) (o := .cells #[.int .i64 a1_0, .int .i64 a1_1] 23 (0, 0)) (by (with_reducible repeat (first | refine bN ?_ _ | refine bD ?_ | refine bA ?_ _)); exact BK121.out)) : gb131 ≠ gb121))
       have n11_ := am ((by rw [hg]; exact Nat.ne_of_lt (blk_lt (g := gb125) (o := .cells #[.int .i64 t123, .int .i64 t124] 26 (0, 0)) (by (with_reducible repeat (first | refine bN ?_ _ | refine bD ?_ | refine bA ?_ _)); exact BK125.out)) : gb125 ≠ gb131))
       have n12_ := am ((by rw [hg]; exact Nat.ne_of_gt (blk_lt (g := gb125) (o := .cells #[.int .i64 t123, .int .i64 t124] 26 (0, 0)) (by (with_reducible repeat (first | refine bN ?_ _ | refine bD ?_ | refine bA ?_ _)); exact BK125.out)) : gb131 ≠ gb125))
       clear BK120
       clear BK121
       clear BK125
       clear HB
       have BK120 := n0_
       have BK121 := n1_
       have BK125 := n2_
       have HB := n3_
       have BK131 := n4_
       have GW131 := n5_
       have GE131 := n6_
       have NB120_131 := n7_
       have NB131_120 := n8_
       have NB121_131 := n9_
       have NB131_121 := n10_
       have NB125_131 := n11_
       have NB131_125 := n12_
       clear n0_ n1_ n2_ n3_ n4_ n5_ n6_ n7_ n8_ n9_ n10_ n11_ n12_
       clear hb hbox hg
       refine hK.out _ _ ⟨(blk_cell BK125.out 0).trans rfl, (blk_cell BK125.out 1).trans rfl, (blk_cell BK121.out 0).trans rfl, (blk_cell BK121.out 1).trans rfl⟩ (fun hHeld => ?_)
       clear hK K
       refine norm_ (a' := ?_) ?_ ?_
       rotate_left
       ·show Act.put _ (some 9) _ = _
        simp only [Act.put, zT, z0, zS, i64_w, i32_w]
        rfl
       refine one_ (i := 2) (N := some 23) #[true, true, true, false, false, false, false, true, false, false] rfl rfl (one_of HT_.out (by kernel_rfl)) (by decide) (fun K hK => ?_)
       refine goes_ Try.func15 (by kernel_rfl) rfl #[.agg #[.int .i64 a1_0, .int .i64 a1_1]] (by rfl) rfl rfl (by (try simp only [List.map_toArray, List.map_cons, List.map_nil]); first | done | rfl | (simp only [List.length_drop, List.length_take]; rfl)) ?_
       with_reducible refine (reredoslaw06_made.calls a1_0 a1_1 t126 t127 _ A6.out).mono ?_
       rintro e w74 ⟨rfl, hb⟩
       refine ⟨_, rfl, ?_⟩
       have n0_ := am (bB (g := gb120) (o := .cells #[.int .i64 a0_0, .int .i64 a0_1] 23 (0, 0)) (by (with_reducible repeat (first | refine bN ?_ _ | refine bD ?_ | refine bA ?_ _)); exact BK120.out) hb)
       have n1_ := am (bB (g := gb121) (o := .cells #[.int .i64 a1_0, .int .i64 a1_1] 23 (0, 0)) (by (with_reducible repeat (first | refine bN ?_ _ | refine bD ?_ | refine bA ?_ _)); exact BK121.out) hb)
       have n2_ := am (bB (g := gb125) (o := .cells #[.int .i64 t123, .int .i64 t124] 26 (0, 0)) (by (with_reducible repeat (first | refine bN ?_ _ | refine bD ?_ | refine bA ?_ _)); exact BK125.out) hb)
       have n3_ := am (bB (g := gb131) (o := .cells #[.int .i64 0, .int .i64 0] 26 (0, 0)) (by (with_reducible repeat (first | refine bN ?_ _ | refine bD ?_ | refine bA ?_ _)); exact BK131.out) hb)
       have n4_ := am (below_step (by repeat (first | (with_reducible first | exact HB.out | apply lA | apply lN | apply lD | refine below_set ?_ GE120.out | refine below_set ?_ GE121.out | refine below_set ?_ GE125.out | refine below_set ?_ GE131.out) | exact HB.out)) hb)
       clear BK120
       clear BK121
       clear BK125
       clear BK131
       clear HB
       have BK120 := n0_
       have BK121 := n1_
       have BK125 := n2_
       have BK131 := n3_
       have HB := n4_
       clear n0_ n1_ n2_ n3_ n4_
       (try clear hb)
       (try clear hb2)
       (try clear hk)
       (try clear hi)
       refine hK.out _ _ ⟨(blk_cell BK125.out 0).trans rfl, (blk_cell BK125.out 1).trans rfl, (blk_cell BK121.out 0).trans rfl, (blk_cell BK121.out 1).trans rfl⟩ (fun hHeld => ?_)
       clear hK K
       refine norm_ (a' := ?_) ?_ ?_
       rotate_left
       ·show Act.put _ (some 23) _ = _
        simp only [Act.put, zT, z0, zS, i64_w, i32_w]
        rfl
       refine one_ (i := 3) (N := some 24) #[true, true, true, true, false, false, false, true, false, false] rfl rfl (one_of HT_.out (by kernel_rfl)) (by decide) (fun K hK => ?_)
       refine goes_ Try.func14 (by kernel_rfl) rfl #[.agg #[.int .i64 t123, .int .i64 t124], .agg #[.int .i64 t126, .int .i64 t127]] (by rfl) rfl rfl (by (try simp only [List.map_toArray, List.map_cons, List.map_nil]); first | done | rfl | (simp only [List.length_drop, List.length_take]; rfl)) ?_
       with_reducible refine (budget_Budget_Pay.calls t123 t124 t126 t127 t128 t129 t130 _ A7.out).mono ?_
       rintro e w75 ⟨rfl, hb⟩
       refine ⟨_, rfl, ?_⟩
       have n0_ := am (bB (g := gb120) (o := .cells #[.int .i64 a0_0, .int .i64 a0_1] 23 (0, 0)) (by (with_reducible repeat (first | refine bN ?_ _ | refine bD ?_ | refine bA ?_ _)); exact BK120.out) hb)
       have n1_ := am (bB (g := gb121) (o := .cells #[.int .i64 a1_0, .int .i64 a1_1] 23 (0, 0)) (by (with_reducible repeat (first | refine bN ?_ _ | refine bD ?_ | refine bA ?_ _)); exact BK121.out) hb)
       have n2_ := am (bB (g := gb125) (o := .cells #[.int .i64 t123, .int .i64 t124] 26 (0, 0)) (by (with_reducible repeat (first | refine bN ?_ _ | refine bD ?_ | refine bA ?_ _)); exact BK125.out) hb)
       have n3_ := am (bB (g := gb131) (o := .cells #[.int .i64 0, .int .i64 0] 26 (0, 0)) (by (with_reducible repeat (first | refine bN ?_ _ | refine bD ?_ | refine bA ?_ _)); exact BK131.out) hb)
       have n4_ := am (below_step (by repeat (first | (with_reducible first | exact HB.out | apply lA | apply lN | apply lD | refine below_set ?_ GE120.out | refine below_set ?_ GE121.out | refine below_set ?_ GE125.out | refine below_set ?_ GE131.out) | exact HB.out)) hb)
       clear BK120
       clear BK121
       clear BK125
       clear BK131
       clear HB
       have BK120 := n0_
       have BK121 := n1_
       have BK125 := n2_
       have BK131 := n3_
       have HB := n4_
       clear n0_ n1_ n2_ n3_ n4_
       (try clear hb)
       (try clear hb2)
       (try clear hk)
       (try clear hi)
       refine hK.out _ _ ⟨(blk_cell BK125.out 0).trans rfl, (blk_cell BK125.out 1).trans rfl, (blk_cell BK121.out 0).trans rfl, (blk_cell BK121.out 1).trans rfl⟩ (fun hHeld => ?_)
       clear hK K
       refine norm_ (a' := ?_) ?_ ?_
       rotate_left
       ·show Act.put _ (some 24) _ = _
        simp only [Act.put, zT, z0, zS, i64_w, i32_w]
        rfl
       refine pure_ (i := 4) (N := some 20) (v := ?_) (a' := ?_) #[true, true, true, true, true, false, false, true, false, false] rfl rfl (any_of HT_.out (by kernel_rfl)) (fun _ _ _ h => h) (Or.inl ⟨by rfl, ?_⟩) ?_ ?_
       rotate_left
       ·intro w'
        go_simp
        with_reducible rfl
       rotate_left
       ·simp only [Act.put, zT, z0, zS, i64_w, i32_w]
        rfl
       refine pure_ (i := 5) (N := some 25) (v := ?_) (a' := ?_) #[true, true, true, true, true, true, false, true, false, false] rfl rfl (any_of HT_.out (by kernel_rfl)) (fun _ _ _ h => h) (Or.inl ⟨by rfl, ?_⟩) ?_ ?_
       rotate_left
       ·intro w'
        go_simp
        with_reducible rfl
       rotate_left
       ·simp only [Act.put, zT, z0, zS, i64_w, i32_w]
        rfl
       refine pure_ (i := 6) (N := some 26) (v := ?_) (a' := ?_) #[true, true, true, true, true, true, true, true, false, false] rfl rfl (any_of HT_.out (by kernel_rfl)) (fun _ _ _ h => h) (Or.inl ⟨by rfl, ?_⟩) ?_ ?_
       rotate_left
       ·intro w'
        go_simp
        with_reducible rfl
       rotate_left
       ·simp only [Act.put, zT, z0, zS, i64_w, i32_w]
        rfl
       exact norm_ (by simp only [putAll, Act.put, zT, z0, zS]) (hCont (gb131) _ ⟨hHeld, (by (with_reducible repeat (first | refine bN ?_ _ | refine bD ?_ | refine bA ?_ _)); exact BK120.out), (by (with_reducible repeat (first | refine bN ?_ _ | refine bD ?_ | refine bA ?_ _)); exact BK121.out), (by (with_reducible repeat (first | refine bN ?_ _ | refine bD ?_ | refine bA ?_ _)); exact BK125.out), (by (with_reducible repeat (first | refine bN ?_ _ | refine bD ?_ | refine bA ?_ _)); exact BK131.out), GW131.out, GE131.out, NB120_131.out, NB131_120.out, NB121_131.out, NB131_121.out, NB125_131.out, NB131_125.out, (by repeat (first | (with_reducible first | exact HB.out | apply lA | apply lN | apply lD | refine below_set ?_ GE120.out | refine below_set ?_ GE121.out | refine below_set ?_ GE125.out | refine below_set ?_ GE131.out) | exact HB.out))⟩)
     rintro gb131 w76 ⟨hS_, h0_, h1_, h2_, h3_, h4_, h5_, h6_, h7_, h8_, h9_, h10_, h11_, h12_⟩
     have n0_ : Aside0 (w76.heap[gb120]? = some (.cells #[.int .i64 a0_0, .int .i64 a0_1] 23 (0, 0))) := ⟨h0_⟩
     have n1_ : Aside0 (w76.heap[gb121]? = some (.cells #[.int .i64 a1_0, .int .i64 a1_1] 23 (0, 0))) := ⟨h1_⟩
     have n2_ : Aside0 (w76.heap[gb125]? = some (.cells #[.int .i64 t123, .int .i64 t124] 26 (0, 0))) := ⟨h2_⟩
     have n3_ : Aside0 (w76.heap[gb131]? = some (.cells #[.int .i64 0, .int .i64 0] 26 (0, 0))) := ⟨h3_⟩
     have n4_ : Aside0 (w.heap.size ≤ gb131) := ⟨h4_⟩
     have n5_ : Aside0 (w.heap.size ≤ gb131) := ⟨h5_⟩
     have n6_ : Aside0 (gb120 ≠ gb131) := ⟨h6_⟩
     have n7_ : Aside0 (gb131 ≠ gb120) := ⟨h7_⟩
     have n8_ : Aside0 (gb121 ≠ gb131) := ⟨h8_⟩
     have n9_ : Aside0 (gb131 ≠ gb121) := ⟨h9_⟩
     have n10_ : Aside0 (gb125 ≠ gb131) := ⟨h10_⟩
     have n11_ : Aside0 (gb131 ≠ gb125) := ⟨h11_⟩
     have n12_ : Aside0 (Below w.heap.size w w76) := ⟨h12_⟩
     clear BK120
     clear BK121
     clear BK125
     clear HB
     clear h0_ h1_ h2_ h3_ h4_ h5_ h6_ h7_ h8_ h9_ h10_ h11_ h12_
     have BK120 := n0_
     have BK121 := n1_
     have BK125 := n2_
     have BK131 := n3_
     have GW131 := n4_
     have GE131 := n5_
     have NB120_131 := n6_
     have NB131_120 := n7_
     have NB121_131 := n8_
     have NB131_121 := n9_
     have NB125_131 := n10_
     have NB131_125 := n11_
     have HB := n12_
     clear n0_ n1_ n2_ n3_ n4_ n5_ n6_ n7_ n8_ n9_ n10_ n11_ n12_
     have hHeld : w76.cell? ⟨gb125, 0, none⟩ = some (.int .i64 t123) ∧ w76.cell? ⟨gb125, 1, none⟩ = some (.int .i64 t124) ∧ w76.cell? ⟨gb121, 0, none⟩ = some (.int .i64 a1_0) ∧ w76.cell? ⟨gb121, 1, none⟩ = some (.int .i64 a1_1) := hS_
     refine norm_ (a' := ?_) ?_ ?_
     rotate_left
     ·simp only [putAll, Act.put, zT, z0, zS]
      rfl
     refine one_ (i := 8) (N := none) #[true, true, true, true, true, true, true, true, true, false] rfl rfl (one_of HT_.out (by kernel_rfl)) (by decide) (fun K hK => ?_)
     have hs77 : w76.cell? ⟨gb131, 0, none⟩ = some (.int .i64 0) := (blk_cell BK131.out 0).trans rfl
     have hfs77 := blk_frozen BK131.out 0
     have hns77_0 := NB120_131.out
     have hns77_1 := NB121_131.out
     have hns77_2 := NB125_131.out
     have hms77_0 := NB131_120.out
     have hms77_1 := NB131_121.out
     have hms77_2 := NB131_125.out
     have hs78 : w76.cell? ⟨gb131, 1, none⟩ = some (.int .i64 0) := (blk_cell BK131.out 1).trans rfl
     have hfs78 := blk_frozen BK131.out 1
     have hns78_0 := NB120_131.out
     have hns78_1 := NB121_131.out
     have hns78_2 := NB125_131.out
     have hms78_0 := NB131_120.out
     have hms78_1 := NB131_121.out
     have hms78_2 := NB131_125.out
     refine skip_ (w1 := ?_) (by rfl) rfl ?_ ?_
     rotate_left
     ·go_simp
      rfl
     refine hK.out _ _ ⟨((cell_far (p := ⟨gb131, _, none⟩) NB125_131.out _).trans (((cell_far (p := ⟨gb131, _, none⟩) NB125_131.out _).trans (hHeld.1)))), ((cell_far (p := ⟨gb131, _, none⟩) NB125_131.out _).trans (((cell_far (p := ⟨gb131, _, none⟩) NB125_131.out _).trans (hHeld.2.1)))), ((cell_far (p := ⟨gb131, _, none⟩) NB121_131.out _).trans (((cell_far (p := ⟨gb131, _, none⟩) NB121_131.out _).trans (hHeld.2.2.1)))), ((cell_far (p := ⟨gb131, _, none⟩) NB121_131.out _).trans (((cell_far (p := ⟨gb131, _, none⟩) NB121_131.out _).trans (hHeld.2.2.2))))⟩ (fun hHeld => ?_)
     clear hK K
     refine pure_ (i := 9) (N := some 10) (v := ?_) (a' := ?_) #[true, true, true, true, true, true, true, true, true, true] rfl rfl (any_of HT_.out (by kernel_rfl)) (fun _ _ _ h => h) (Or.inl ⟨by rfl, ?_⟩) ?_ ?_
     rotate_left
     ·intro w'
      go_simp
      with_reducible rfl
     rotate_left
     ·simp only [Act.put, zT, z0, zS, i64_w, i32_w]
      rfl
     refine done_ (done_of HT_.out (by kernel_rfl)) ?_
     have hnb79 := NB125_131.out
     have hnc79 := NB131_125.out
     have hcz80_0 : w76.cell? ⟨gb125, 0, none⟩ = some (.int .i64 t123) := (blk_cell BK125.out 0).trans rfl
     have hcz80_1 : w76.cell? ⟨gb125, 1, none⟩ = some (.int .i64 t124) := (blk_cell BK125.out 1).trans rfl
     have hfz80_0 := blk_frozen BK125.out 0
     have hfz80_1 := blk_frozen BK125.out 1
     try go_wp2_with (first | ((with_reducible refine gate_dst (N := 11) rfl ?_); refine box_event ?hg (N := 11) ?hd (cs := #[.int .i64 0, .int .i64 0]) (t := 26) ?hr ?_; (case hd => rfl); (case hg => rfl); (case hr => first | (go_simp; done) | (go_simp; rfl)); intro gb132 hg w81 hbox hb; have n0_ := am (bB (g := gb120) (o := .cells #[.int .i64 a0_0, .int .i64 a0_1] 23 (0, 0)) (by (with_reducible repeat (first | refine bN ?_ _ | refine bD ?_ | refine bA ?_ _)); refine blk_far ?_ NB120_131.out _; (with_reducible repeat (first | refine bN ?_ _ | refine bD ?_ | refine bA ?_ _)); refine blk_far ?_ NB120_131.out _; (with_reducible repeat (first | refine bN ?_ _ | refine bD ?_ | refine bA ?_ _)); exact BK120.out) hb); have n1_ := am (bB (g := gb121) (o := .cells #[.int .i64 a1_0, .int .i64 a1_1] 23 (0, 0)) (by (with_reducible repeat (first | refine bN ?_ _ | refine bD ?_ | refine bA ?_ _)); refine blk_far ?_ NB121_131.out _; (with_reducible repeat (first | refine bN ?_ _ | refine bD ?_ | refine bA ?_ _)); refine blk_far ?_ NB121_131.out _; (with_reducible repeat (first | refine bN ?_ _ | refine bD ?_ | refine bA ?_ _)); exact BK121.out) hb); have n2_ := am (bB (g := gb125) (o := .cells #[.int .i64 t123, .int .i64 t124] 26 (0, 0)) (by (with_reducible repeat (first | refine bN ?_ _ | refine bD ?_ | refine bA ?_ _)); refine blk_far ?_ NB125_131.out _; (with_reducible repeat (first | refine bN ?_ _ | refine bD ?_ | refine bA ?_ _)); refine blk_far ?_ NB125_131.out _; (with_reducible repeat (first | refine bN ?_ _ | refine bD ?_ | refine bA ?_ _)); exact BK125.out) hb); have n3_ := am (bB (g := gb131) (o := .cells #[.int .i64 t128, .int .i64 t129] 26 (0, 0)) (by (with_reducible repeat (first | refine bN ?_ _ | refine bD ?_ | refine bA ?_ _)); refine blk_put (cs := #[.int .i64 t128, .int .i64 0]) ?_ 1 _ rfl; (with_reducible repeat (first | refine bN ?_ _ | refine bD ?_ | refine bA ?_ _)); refine blk_put (cs := #[.int .i64 0, .int .i64 0]) ?_ 0 _ rfl; (with_reducible repeat (first | refine bN ?_ _ | refine bD ?_ | refine bA ?_ _)); exact BK131.out) hb); have n4_ := am (below_step (by repeat (first | (with_reducible first | exact HB.out | apply lA | apply lN | apply lD | refine below_set ?_ GE120.out | refine below_set ?_ GE121.out | refine below_set ?_ GE125.out | refine below_set ?_ GE131.out) | exact HB.out)) hb); have n5_ := am (hbox); have n6_ := am ((by rw [hg]; exact (below_size (by repeat (first | (with_reducible first | exact HB.out | apply lA | apply lN | apply lD | refine below_set ?_ GE120.out | refine below_set ?_ GE121.out | refine below_set ?_ GE125.out | refine below_set ?_ GE131.out) | exact HB.out))) : w.heap.size ≤ gb132)); have n7_ := n6_; have n8_ := am ((by rw [hg]; exact Nat.ne_of_lt (blk_lt (g := gb120) (o := .cells #[.int .i64 a0_0, .int .i64 a0_1] 23 (0, 0)) (by (with_reducible repeat (first | refine bN ?_ _ | refine bD ?_ | refine bA ?_ _)); refine blk_far ?_ NB120_131.out _; (with_reducible repeat (first | refine bN ?_ _ | refine bD ?_ | refine bA ?_ _)); refine blk_far ?_ NB120_131.out _; (with_reducible repeat (first | refine bN ?_ _ | refine bD ?_ | refine bA ?_ _)); exact BK120.out)) : gb120 ≠ gb132)); have n9_ := am ((by rw [hg]; exact Nat.ne_of_gt (blk_lt (g := gb120) (o := .cells #[.int .i64 a0_0, .int .i64 a0_1] 23 (0, 0)) (by (with_reducible repeat (first | refine bN ?_ _ | refine bD ?_ | refine bA ?_ _)); refine blk_far ?_ NB120_131.out _; (with_reducible repeat (first | refine bN ?_ _ | refine bD ?_ | refine bA ?_ _)); refine blk_far ?_ NB120_131.out _; (with_reducible repeat (first | refine bN ?_ _ | refine bD ?_ | refine bA ?_ _)); exact BK120.out)) : gb132 ≠ gb120)); have n10_ := am ((by rw [hg]; exact Nat.ne_of_lt (blk_lt (g := gb121) (o := .cells #[.int .i64 a1_0, .int .i64 a1_1] 23 (0, 0)) (by (with_reducible repeat (first | refine bN ?_ _ | refine bD ?_ | refine bA ?_ _)); refine blk_far ?_ NB121_131.out _; (with_reducible repeat (first | refine bN ?_ _ | refine bD ?_ | refine bA ?_ _)); refine blk_far ?_ NB121_131.out _; (with_reducible repeat (first | refine bN ?_ _ | refine bD ?_ | refine bA ?_ _)); exact BK121.out)) : gb121 ≠ gb132)); have n11_ := am ((by rw [hg]; exact Nat.ne_of_gt (blk_lt (g := gb121) (o := .cells #[.int .i64 a1_0, .int .i64 a1_1] 23 (0, 0)) (by (with_reducible repeat (first | refine bN ?_ _ | refine bD ?_ | refine bA ?_ _)); refine blk_far ?_ NB121_131.out _; (with_reducible repeat (first | refine bN ?_ _ | refine bD ?_ | refine bA ?_ _)); refine blk_far ?_ NB121_131.out _; (with_reducible repeat (first | refine bN ?_ _ | refine bD ?_ | refine bA ?_ _)); exact BK121.out)) : gb132 ≠ gb121)); have n12_ := am ((by rw [hg]; exact Nat.ne_of_lt (blk_lt (g := gb125) (o := .cells #[.int .i64 t123, .int .i64 t124] 26 (0, 0)) (by (with_reducible repeat (first | refine bN ?_ _ | refine bD ?_ | refine bA ?_ _)); refine blk_far ?_ NB125_131.out _; (with_reducible repeat (first | refine bN ?_ _ | refine bD ?_ | refine bA ?_ _)); refine blk_far ?_ NB125_131.out _; (with_reducible repeat (first | refine bN ?_ _ | refine bD ?_ | refine bA ?_ _)); exact BK125.out)) : gb125 ≠ gb132)); have n13_ := am ((by rw [hg]; exact Nat.ne_of_gt (blk_lt (g := gb125) (o := .cells #[.int .i64 t123, .int .i64 t124] 26 (0, 0)) (by (with_reducible repeat (first | refine bN ?_ _ | refine bD ?_ | refine bA ?_ _)); refine blk_far ?_ NB125_131.out _; (with_reducible repeat (first | refine bN ?_ _ | refine bD ?_ | refine bA ?_ _)); refine blk_far ?_ NB125_131.out _; (with_reducible repeat (first | refine bN ?_ _ | refine bD ?_ | refine bA ?_ _)); exact BK125.out)) : gb132 ≠ gb125)); have n14_ := am ((by rw [hg]; exact Nat.ne_of_lt (blk_lt (g := gb131) (o := .cells #[.int .i64 t128, .int .i64 t129] 26 (0, 0)) (by (with_reducible repeat (first | refine bN ?_ _ | refine bD ?_ | refine bA ?_ _)); refine blk_put (cs := #[.int .i64 t128, .int .i64 0]) ?_ 1 _ rfl; (with_reducible repeat (first | refine bN ?_ _ | refine bD ?_ | refine bA ?_ _)); refine blk_put (cs := #[.int .i64 0, .int .i64 0]) ?_ 0 _ rfl; (with_reducible repeat (first | refine bN ?_ _ | refine bD ?_ | refine bA ?_ _)); exact BK131.out)) : gb131 ≠ gb132)); have n15_ := am ((by rw [hg]; exact Nat.ne_of_gt (blk_lt (g := gb131) (o := .cells #[.int .i64 t128, .int .i64 t129] 26 (0, 0)) (by (with_reducible repeat (first | refine bN ?_ _ | refine bD ?_ | refine bA ?_ _)); refine blk_put (cs := #[.int .i64 t128, .int .i64 0]) ?_ 1 _ rfl; (with_reducible repeat (first | refine bN ?_ _ | refine bD ?_ | refine bA ?_ _)); refine blk_put (cs := #[.int .i64 0, .int .i64 0]) ?_ 0 _ rfl; (with_reducible repeat (first | refine bN ?_ _ | refine bD ?_ | refine bA ?_ _)); exact BK131.out)) : gb132 ≠ gb131)); clear BK120; clear BK121; clear BK125; clear BK131; clear HB; have BK120 := n0_; have BK121 := n1_; have BK125 := n2_; have BK131 := n3_; have HB := n4_; have BK132 := n5_; have GW132 := n6_; have GE132 := n7_; have NB120_132 := n8_; have NB132_120 := n9_; have NB121_132 := n10_; have NB132_121 := n11_; have NB125_132 := n12_; have NB132_125 := n13_; have NB131_132 := n14_; have NB132_131 := n15_; clear n0_ n1_ n2_ n3_ n4_ n5_ n6_ n7_ n8_ n9_ n10_ n11_ n12_ n13_ n14_ n15_; clear hb hbox hg; have hnb82 := NB132_120.out; have hnc82 := NB120_132.out; have hnb83 := NB132_121.out; have hnc83 := NB121_132.out; have hnb84 := NB132_125.out; have hnc84 := NB125_132.out; have hnb85 := NB132_131.out; have hnc85 := NB131_132.out; have hcz86_0 : w81.cell? ⟨gb132, 0, none⟩ = some (.int .i64 0) := (blk_cell BK132.out 0).trans rfl; have hcz86_1 : w81.cell? ⟨gb132, 1, none⟩ = some (.int .i64 0) := (blk_cell BK132.out 1).trans rfl; have hfz86_0 := blk_frozen BK132.out 0; have hfz86_1 := blk_frozen BK132.out 1; have hnb87 := NB131_120.out; have hnc87 := NB120_131.out; have hnb88 := NB131_121.out; have hnc88 := NB121_131.out; have hcz89_0 : w81.cell? ⟨gb131, 0, none⟩ = some (.int .i64 t128) := (blk_cell BK131.out 0).trans rfl; have hcz89_1 : w81.cell? ⟨gb131, 1, none⟩ = some (.int .i64 t129) := (blk_cell BK131.out 1).trans rfl; have hfz89_0 := blk_frozen BK131.out 0; have hfz89_1 := blk_frozen BK131.out 1; have hcz90_0 : w81.cell? ⟨gb121, 0, none⟩ = some (.int .i64 a1_0) := (blk_cell BK121.out 0).trans rfl; have hcz90_1 : w81.cell? ⟨gb121, 1, none⟩ = some (.int .i64 a1_1) := (blk_cell BK121.out 1).trans rfl; have hfz90_0 := blk_frozen BK121.out 0; have hfz90_1 := blk_frozen BK121.out 1))
     go_ret
     exact ⟨by first | rfl | (simp [errW_none, errW_some] <;> rfl) | (simp [*, errW_none, errW_some] <;> rfl), by repeat (first | (with_reducible first | exact HB.out | apply lA | apply lN | apply lD | refine below_set ?_ GE120.out | refine below_set ?_ GE121.out | refine below_set ?_ GE125.out | refine below_set ?_ GE131.out | refine below_set ?_ GE132.out) | exact HB.out)⟩
    ·rw [if_neg c60] at H
     have c60b0 : decide (a1_0 < 0) = false := decide_eq_false c60
     clear c60
     obtain rfl := Option.some.inj H
     go_enter Try.func3, Try.ntmps3
     try go_wp2_with (first | ((with_reducible refine gate_dst (N := 3) rfl ?_); refine box_event ?hg (N := 3) ?hd (cs := #[.int .i64 a0_0, .int .i64 a0_1]) (t := 23) ?hr ?_; (case hd => rfl); (case hg => rfl); (case hr => first | (go_simp; done) | (go_simp; rfl)); intro gb120 hg w91 hbox hb; have n0_ := am (below_step (by repeat (first | (with_reducible first | exact HB.out | apply lA | apply lN | apply lD) | exact HB.out)) hb); have n1_ := am (hbox); have n2_ := am ((by rw [hg]; exact (below_size (by repeat (first | (with_reducible first | exact HB.out | apply lA | apply lN | apply lD) | exact HB.out))) : w.heap.size ≤ gb120)); have n3_ := n2_; clear HB; have HB := n0_; have BK120 := n1_; have GW120 := n2_; have GE120 := n3_; clear n0_ n1_ n2_ n3_; clear hb hbox hg) | ((with_reducible refine gate_dst (N := 4) rfl ?_); refine box_event ?hg (N := 4) ?hd (cs := #[.int .i64 a1_0, .int .i64 a1_1]) (t := 23) ?hr ?_; (case hd => rfl); (case hg => rfl); (case hr => first | (go_simp; done) | (go_simp; rfl)); intro gb121 hg w92 hbox hb; have n0_ := am (bB (g := gb120) (o := .cells #[.int .i64 a0_0, .int .i64 a0_1] 23 (0, 0)) (by (with_reducible repeat (first | refine bN ?_ _ | refine bD ?_ | refine bA ?_ _)); exact BK120.out) hb); have n1_ := am (below_step (by repeat (first | (with_reducible first | exact HB.out | apply lA | apply lN | apply lD | refine below_set ?_ GE120.out) | exact HB.out)) hb); have n2_ := am (hbox); have n3_ := am ((by rw [hg]; exact (below_size (by repeat (first | (with_reducible first | exact HB.out | apply lA | apply lN | apply lD | refine below_set ?_ GE120.out) | exact HB.out))) : w.heap.size ≤ gb121)); have n4_ := n3_; have n5_ := am ((by rw [hg]; exact Nat.ne_of_lt (blk_lt (g := gb120) (o := .cells #[.int .i64 a0_0, .int .i64 a0_1] 23 (0, 0)) (by (with_reducible repeat (first | refine bN ?_ _ | refine bD ?_ | refine bA ?_ _)); exact BK120.out)) : gb120 ≠ gb121)); have n6_ := am ((by rw [hg]; exact Nat.ne_of_gt (blk_lt (g := gb120) (o := .cells #[.int .i64 a0_0, .int .i64 a0_1] 23 (0, 0)) (by (with_reducible repeat (first | refine bN ?_ _ | refine bD ?_ | refine bA ?_ _)); exact BK120.out)) : gb121 ≠ gb120)); clear BK120; clear HB; have BK120 := n0_; have HB := n1_; have BK121 := n2_; have GW121 := n3_; have GE121 := n4_; have NB120_121 := n5_; have NB121_120 := n6_; clear n0_ n1_ n2_ n3_ n4_ n5_ n6_; clear hb hbox hg) | ((with_reducible refine gate_callee (f := 12) rfl ?_); refine goesL_ (some 14) rfl rfl Try.func12 (by kernel_rfl) rfl #[] rfl (by (try simp only [List.map_toArray, List.map_cons, List.map_nil]); first | done | rfl | (simp only [List.length_drop, List.length_take]; rfl)) ?_; (with_reducible refine (reredoslaw06_shown.calls  true _ A4.out).mono ?_); rintro e w93 ⟨rfl, hb⟩; refine ⟨_, rfl, ?_⟩; have n0_ := am (bB (g := gb120) (o := .cells #[.int .i64 a0_0, .int .i64 a0_1] 23 (0, 0)) (by (with_reducible repeat (first | refine bN ?_ _ | refine bD ?_ | refine bA ?_ _)); exact BK120.out) hb); have n1_ := am (bB (g := gb121) (o := .cells #[.int .i64 a1_0, .int .i64 a1_1] 23 (0, 0)) (by (with_reducible repeat (first | refine bN ?_ _ | refine bD ?_ | refine bA ?_ _)); exact BK121.out) hb); have n2_ := am (below_step (by repeat (first | (with_reducible first | exact HB.out | apply lA | apply lN | apply lD | refine below_set ?_ GE120.out | refine below_set ?_ GE121.out) | exact HB.out)) hb); clear BK120; clear BK121; clear HB; have BK120 := n0_; have BK121 := n1_; have HB := n2_; clear n0_ n1_ n2_; (try clear hb); (try clear hb2); (try clear hk); (try clear hi); have hnb94 := NB120_121.out; have hnc94 := NB121_120.out; have hcz95_0 : w93.cell? ⟨gb120, 0, none⟩ = some (.int .i64 a0_0) := (blk_cell BK120.out 0).trans rfl; have hcz95_1 : w93.cell? ⟨gb120, 1, none⟩ = some (.int .i64 a0_1) := (blk_cell BK120.out 1).trans rfl; have hfz95_0 := blk_frozen BK120.out 0; have hfz95_1 := blk_frozen BK120.out 1) | ((with_reducible refine gate_callee (f := 13) rfl ?_); refine goesL_ (some 19) rfl rfl Try.func13 (by kernel_rfl) rfl #[.int .i64 a0_0, .int .i64 a0_1] rfl (by (try simp only [List.map_toArray, List.map_cons, List.map_nil]); first | done | rfl | (simp only [List.length_drop, List.length_take]; rfl)) ?_; (with_reducible refine (budget_New.calls a0_0 a0_1 t123 t124 _ A5.out).mono ?_); rintro e w96 ⟨rfl, hb⟩; refine ⟨_, rfl, ?_⟩; have n0_ := am (bB (g := gb120) (o := .cells #[.int .i64 a0_0, .int .i64 a0_1] 23 (0, 0)) (by (with_reducible repeat (first | refine bN ?_ _ | refine bD ?_ | refine bA ?_ _)); exact BK120.out) hb); have n1_ := am (bB (g := gb121) (o := .cells #[.int .i64 a1_0, .int .i64 a1_1] 23 (0, 0)) (by (with_reducible repeat (first | refine bN ?_ _ | refine bD ?_ | refine bA ?_ _)); exact BK121.out) hb); have n2_ := am (below_step (by repeat (first | (with_reducible first | exact HB.out | apply lA | apply lN | apply lD | refine below_set ?_ GE120.out | refine below_set ?_ GE121.out) | exact HB.out)) hb); clear BK120; clear BK121; clear HB; have BK120 := n0_; have BK121 := n1_; have HB := n2_; clear n0_ n1_ n2_; (try clear hb); (try clear hb2); (try clear hk); (try clear hi)) | ((with_reducible refine gate_dst (N := 8) rfl ?_); refine box_event ?hg (N := 8) ?hd (cs := #[.int .i64 0, .int .i64 0]) (t := 26) ?hr ?_; (case hd => rfl); (case hg => rfl); (case hr => first | (go_simp; done) | (go_simp; rfl)); intro gb125 hg w97 hbox hb; have n0_ := am (bB (g := gb120) (o := .cells #[.int .i64 a0_0, .int .i64 a0_1] 23 (0, 0)) (by (with_reducible repeat (first | refine bN ?_ _ | refine bD ?_ | refine bA ?_ _)); exact BK120.out) hb); have n1_ := am (bB (g := gb121) (o := .cells #[.int .i64 a1_0, .int .i64 a1_1] 23 (0, 0)) (by (with_reducible repeat (first | refine bN ?_ _ | refine bD ?_ | refine bA ?_ _)); exact BK121.out) hb); have n2_ := am (below_step (by repeat (first | (with_reducible first | exact HB.out | apply lA | apply lN | apply lD | refine below_set ?_ GE120.out | refine below_set ?_ GE121.out) | exact HB.out)) hb); have n3_ := am (hbox); have n4_ := am ((by rw [hg]; exact (below_size (by repeat (first | (with_reducible first | exact HB.out | apply lA | apply lN | apply lD | refine below_set ?_ GE120.out | refine below_set ?_ GE121.out) | exact HB.out))) : w.heap.size ≤ gb125)); have n5_ := n4_; have n6_ := am ((by rw [hg]; exact Nat.ne_of_lt (blk_lt (g := gb120) (o := .cells #[.int .i64 a0_0, .int .i64 a0_1] 23 (0, 0)) (by (with_reducible repeat (first | refine bN ?_ _ | refine bD ?_ | refine bA ?_ _)); exact BK120.out)) : gb120 ≠ gb125)); have n7_ := am ((by rw [hg]; exact Nat.ne_of_gt (blk_lt (g := gb120) (o := .cells #[.int .i64 a0_0, .int .i64 a0_1] 23 (0, 0)) (by (with_reducible repeat (first | refine bN ?_ _ | refine bD ?_ | refine bA ?_ _)); exact BK120.out)) : gb125 ≠ gb120)); have n8_ := am ((by rw [hg]; exact Nat.ne_of_lt (blk_lt (g := gb121) (o := .cells #[.int .i64 a1_0, .int .i64 a1_1] 23 (0, 0)) (by (with_reducible repeat (first | refine bN ?_ _ | refine bD ?_ | refine bA ?_ _)); exact BK121.out)) : gb121 ≠ gb125)); have n9_ := am ((by rw [hg]; exact Nat.ne_of_gt (blk_lt (g := gb121) (o := .cells #[.int .i64 a1_0, .int .i64 a1_1] 23 (0, 0)) (by (with_reducible repeat (first | refine bN ?_ _ | refine bD ?_ | refine bA ?_ _)); exact BK121.out)) : gb125 ≠ gb121)); clear BK120; clear BK121; clear HB; have BK120 := n0_; have BK121 := n1_; have HB := n2_; have BK125 := n3_; have GW125 := n4_; have GE125 := n5_; have NB120_125 := n6_; have NB125_120 := n7_; have NB121_125 := n8_; have NB125_121 := n9_; clear n0_ n1_ n2_ n3_ n4_ n5_ n6_ n7_ n8_ n9_; clear hb hbox hg; have hnb98 := NB125_120.out; have hnc98 := NB120_125.out; have hnb99 := NB125_121.out; have hnc99 := NB121_125.out; have hcz100_0 : w97.cell? ⟨gb125, 0, none⟩ = some (.int .i64 0) := (blk_cell BK125.out 0).trans rfl; have hcz100_1 : w97.cell? ⟨gb125, 1, none⟩ = some (.int .i64 0) := (blk_cell BK125.out 1).trans rfl; have hfz100_0 := blk_frozen BK125.out 0; have hfz100_1 := blk_frozen BK125.out 1))
     have n0_ : Aside0 (((w97.setCell ⟨gb125, 0, none⟩ (.int .i64 t123)).setCell ⟨gb125, 1, none⟩ (.int .i64 t124)).heap[gb120]? = some (.cells #[.int .i64 a0_0, .int .i64 a0_1] 23 (0, 0))) := ⟨by (with_reducible repeat (first | refine bN ?_ _ | refine bD ?_ | refine bA ?_ _)); refine blk_far ?_ NB120_125.out _; (with_reducible repeat (first | refine bN ?_ _ | refine bD ?_ | refine bA ?_ _)); refine blk_far ?_ NB120_125.out _; (with_reducible repeat (first | refine bN ?_ _ | refine bD ?_ | refine bA ?_ _)); exact BK120.out⟩
     have n1_ : Aside0 (((w97.setCell ⟨gb125, 0, none⟩ (.int .i64 t123)).setCell ⟨gb125, 1, none⟩ (.int .i64 t124)).heap[gb121]? = some (.cells #[.int .i64 a1_0, .int .i64 a1_1] 23 (0, 0))) := ⟨by (with_reducible repeat (first | refine bN ?_ _ | refine bD ?_ | refine bA ?_ _)); refine blk_far ?_ NB121_125.out _; (with_reducible repeat (first | refine bN ?_ _ | refine bD ?_ | refine bA ?_ _)); refine blk_far ?_ NB121_125.out _; (with_reducible repeat (first | refine bN ?_ _ | refine bD ?_ | refine bA ?_ _)); exact BK121.out⟩
     have n2_ : Aside0 (((w97.setCell ⟨gb125, 0, none⟩ (.int .i64 t123)).setCell ⟨gb125, 1, none⟩ (.int .i64 t124)).heap[gb125]? = some (.cells #[.int .i64 t123, .int .i64 t124] 26 (0, 0))) := ⟨by (with_reducible repeat (first | refine bN ?_ _ | refine bD ?_ | refine bA ?_ _)); refine blk_put (cs := #[.int .i64 t123, .int .i64 0]) ?_ 1 _ rfl; (with_reducible repeat (first | refine bN ?_ _ | refine bD ?_ | refine bA ?_ _)); refine blk_put (cs := #[.int .i64 0, .int .i64 0]) ?_ 0 _ rfl; (with_reducible repeat (first | refine bN ?_ _ | refine bD ?_ | refine bA ?_ _)); exact BK125.out⟩
     have n3_ : Aside0 (Below w.heap.size w ((w97.setCell ⟨gb125, 0, none⟩ (.int .i64 t123)).setCell ⟨gb125, 1, none⟩ (.int .i64 t124))) := ⟨by repeat (first | (with_reducible first | exact HB.out | apply lA | apply lN | apply lD | refine below_set ?_ GE120.out | refine below_set ?_ GE121.out | refine below_set ?_ GE125.out) | exact HB.out)⟩
     (try clear BK120)
     (try clear BK121)
     (try clear BK125)
     (try clear HB)
     generalize ((w97.setCell ⟨gb125, 0, none⟩ (.int .i64 t123)).setCell ⟨gb125, 1, none⟩ (.int .i64 t124)) = w101 at n0_ n1_ n2_ n3_ ⊢
     have BK120 := n0_
     have BK121 := n1_
     have BK125 := n2_
     have HB := n3_
     clear n0_ n1_ n2_ n3_
     have n0_ := am (bD BK120.out)
     have n1_ := am (bD BK121.out)
     have n2_ := am (bD BK125.out)
     have n3_ := am (lD HB.out)
     clear BK120
     clear BK121
     clear BK125
     clear HB
     have BK120 := n0_
     have BK121 := n1_
     have BK125 := n2_
     have HB := n3_
     clear n0_ n1_ n2_ n3_
     refine start_ (n := 10) (S := fun w' => w'.cell? ⟨gb125, 0, none⟩ = some (.int .i64 t123) ∧ w'.cell? ⟨gb125, 1, none⟩ = some (.int .i64 t124) ∧ w'.cell? ⟨gb121, 0, none⟩ = some (.int .i64 a1_0) ∧ w'.cell? ⟨gb121, 1, none⟩ = some (.int .i64 a1_1)) (ds := []) #[false, false, false, false, false, false, false, false, false, false] (by kernel_rfl) rfl rfl ⟨(blk_cell BK125.out 0).trans rfl, (blk_cell BK125.out 1).trans rfl, (blk_cell BK121.out 0).trans rfl, (blk_cell BK121.out 1).trans rfl⟩ (fun hHeld => ?_); refine with_tabW reredoslaw06_BudgetNever.tab3 reredoslaw06_BudgetNever.bits3 (fun HT_ HW_ => ?_)
     generalize w101.drew = w102 at BK120 BK121 BK125 HB hHeld ⊢
     refine take_ (i := 0) (N := some 21) (v := ?_) (a' := ?_) #[true, false, false, false, false, false, false, false, false, false] rfl rfl (take_ofW HT_.out HW_.out (by kernel_rfl)) (fun _ _ _ h => h) (Or.inl ⟨by rfl, ?_⟩) hHeld ?_ ?_
     rotate_left
     ·rintro w' ⟨s0, s1, s2, s3⟩
      go_simp
      with_reducible rfl
     rotate_left
     ·simp only [Act.put, zT, z0, zS, i64_w, i32_w]
      rfl
     refine take_ (i := 1) (N := some 22) (v := ?_) (a' := ?_) #[true, true, false, false, false, false, false, false, false, false] rfl rfl (take_ofW HT_.out HW_.out (by kernel_rfl)) (fun _ _ _ h => h) (Or.inl ⟨by rfl, ?_⟩) hHeld ?_ ?_
     rotate_left
     ·rintro w' ⟨s0, s1, s2, s3⟩
      go_simp
      with_reducible rfl
     rotate_left
     ·simp only [Act.put, zT, z0, zS, i64_w, i32_w]
      rfl
     refine join_ (σ := Nat) 2 #[true, true, true, true, true, true, true, true, false, false] (fun s_ => [(23, .agg #[.int .i64 t126, .int .i64 t127]), (24, .tuple #[.agg #[.int .i64 t128, .int .i64 t129], .int .i64 t130]), (9, .pointer (some ⟨s_, 0, none⟩)), (20, .tuple #[.agg #[.int .i64 t128, .int .i64 t129], .int .i64 t130]), (25, .agg #[.int .i64 t128, .int .i64 t129]), (26, .int .i64 t130)]) (fun s_ w' => (w'.cell? ⟨gb125, 0, none⟩ = some (.int .i64 t123) ∧ w'.cell? ⟨gb125, 1, none⟩ = some (.int .i64 t124) ∧ w'.cell? ⟨gb121, 0, none⟩ = some (.int .i64 a1_0) ∧ w'.cell? ⟨gb121, 1, none⟩ = some (.int .i64 a1_1)) ∧ (w'.heap[gb120]? = some (.cells #[.int .i64 a0_0, .int .i64 a0_1] 23 (0, 0))) ∧ (w'.heap[gb121]? = some (.cells #[.int .i64 a1_0, .int .i64 a1_1] 23 (0, 0))) ∧ (w'.heap[gb125]? = some (.cells #[.int .i64 t123, .int .i64 t124] 26 (0, 0))) ∧ (w'.heap[s_]? = some (.cells #[.int .i64 0, .int .i64 0] 26 (0, 0))) ∧ (w.heap.size ≤ s_) ∧ (w.heap.size ≤ s_) ∧ (gb120 ≠ s_) ∧ (s_ ≠ gb120) ∧ (gb121 ≠ s_) ∧ (s_ ≠ gb121) ∧ (gb125 ≠ s_) ∧ (s_ ≠ gb125) ∧ (Below w.heap.size w w')) ?_ ?_
     rotate_left
     ·intro hCont
      refine two_ (i := 2) (j := 7) (Ni := some 23) (Nj := some 9) #[true, true, true, false, false, false, false, false, false, false] #[true, true, false, false, false, false, false, true, false, false] rfl rfl rfl rfl (two_of HT_.out (by kernel_rfl)) (by decide) (by decide) (fun K hK => ?_) (fun K hK => ?_)
      ·skip
       refine goes_ Try.func15 (by kernel_rfl) rfl #[.agg #[.int .i64 a1_0, .int .i64 a1_1]] (by rfl) rfl rfl (by (try simp only [List.map_toArray, List.map_cons, List.map_nil]); first | done | rfl | (simp only [List.length_drop, List.length_take]; rfl)) ?_
       with_reducible refine (reredoslaw06_made.calls a1_0 a1_1 t126 t127 _ A6.out).mono ?_
       rintro e w103 ⟨rfl, hb⟩
       refine ⟨_, rfl, ?_⟩
       have n0_ := am (bB (g := gb120) (o := .cells #[.int .i64 a0_0, .int .i64 a0_1] 23 (0, 0)) (by (with_reducible repeat (first | refine bN ?_ _ | refine bD ?_ | refine bA ?_ _)); exact BK120.out) hb)
       have n1_ := am (bB (g := gb121) (o := .cells #[.int .i64 a1_0, .int .i64 a1_1] 23 (0, 0)) (by (with_reducible repeat (first | refine bN ?_ _ | refine bD ?_ | refine bA ?_ _)); exact BK121.out) hb)
       have n2_ := am (bB (g := gb125) (o := .cells #[.int .i64 t123, .int .i64 t124] 26 (0, 0)) (by (with_reducible repeat (first | refine bN ?_ _ | refine bD ?_ | refine bA ?_ _)); exact BK125.out) hb)
       have n3_ := am (below_step (by repeat (first | (with_reducible first | exact HB.out | apply lA | apply lN | apply lD | refine below_set ?_ GE120.out | refine below_set ?_ GE121.out | refine below_set ?_ GE125.out) | exact HB.out)) hb)
       clear BK120
       clear BK121
       clear BK125
       clear HB
       have BK120 := n0_
       have BK121 := n1_
       have BK125 := n2_
       have HB := n3_
       clear n0_ n1_ n2_ n3_
       (try clear hb)
       (try clear hb2)
       (try clear hk)
       (try clear hi)
       refine hK.out _ _ ⟨(blk_cell BK125.out 0).trans rfl, (blk_cell BK125.out 1).trans rfl, (blk_cell BK121.out 0).trans rfl, (blk_cell BK121.out 1).trans rfl⟩ (fun hHeld => ?_)
       clear hK K
       refine norm_ (a' := ?_) ?_ ?_
       rotate_left
       ·show Act.put _ (some 23) _ = _
        simp only [Act.put, zT, z0, zS, i64_w, i32_w]
        rfl
       refine two_ (i := 3) (j := 7) (Ni := some 24) (Nj := some 9) #[true, true, true, true, false, false, false, false, false, false] #[true, true, true, false, false, false, false, true, false, false] rfl rfl rfl rfl (two_of HT_.out (by kernel_rfl)) (by decide) (by decide) (fun K hK => ?_) (fun K hK => ?_)
       ·skip
        refine goes_ Try.func14 (by kernel_rfl) rfl #[.agg #[.int .i64 t123, .int .i64 t124], .agg #[.int .i64 t126, .int .i64 t127]] (by rfl) rfl rfl (by (try simp only [List.map_toArray, List.map_cons, List.map_nil]); first | done | rfl | (simp only [List.length_drop, List.length_take]; rfl)) ?_
        with_reducible refine (budget_Budget_Pay.calls t123 t124 t126 t127 t128 t129 t130 _ A7.out).mono ?_
        rintro e w104 ⟨rfl, hb⟩
        refine ⟨_, rfl, ?_⟩
        have n0_ := am (bB (g := gb120) (o := .cells #[.int .i64 a0_0, .int .i64 a0_1] 23 (0, 0)) (by (with_reducible repeat (first | refine bN ?_ _ | refine bD ?_ | refine bA ?_ _)); exact BK120.out) hb)
        have n1_ := am (bB (g := gb121) (o := .cells #[.int .i64 a1_0, .int .i64 a1_1] 23 (0, 0)) (by (with_reducible repeat (first | refine bN ?_ _ | refine bD ?_ | refine bA ?_ _)); exact BK121.out) hb)
        have n2_ := am (bB (g := gb125) (o := .cells #[.int .i64 t123, .int .i64 t124] 26 (0, 0)) (by (with_reducible repeat (first | refine bN ?_ _ | refine bD ?_ | refine bA ?_ _)); exact BK125.out) hb)
        have n3_ := am (below_step (by repeat (first | (with_reducible first | exact HB.out | apply lA | apply lN | apply lD | refine below_set ?_ GE120.out | refine below_set ?_ GE121.out | refine below_set ?_ GE125.out) | exact HB.out)) hb)
        clear BK120
        clear BK121
        clear BK125
        clear HB
        have BK120 := n0_
        have BK121 := n1_
        have BK125 := n2_
        have HB := n3_
        clear n0_ n1_ n2_ n3_
        (try clear hb)
        (try clear hb2)
        (try clear hk)
        (try clear hi)
        refine hK.out _ _ ⟨(blk_cell BK125.out 0).trans rfl, (blk_cell BK125.out 1).trans rfl, (blk_cell BK121.out 0).trans rfl, (blk_cell BK121.out 1).trans rfl⟩ (fun hHeld => ?_)
        clear hK K
        refine norm_ (a' := ?_) ?_ ?_
        rotate_left
        ·show Act.put _ (some 24) _ = _
         simp only [Act.put, zT, z0, zS, i64_w, i32_w]
         rfl
        refine pure_ (i := 4) (N := some 20) (v := ?_) (a' := ?_) #[true, true, true, true, true, false, false, false, false, false] rfl rfl (any_of HT_.out (by kernel_rfl)) (fun _ _ _ h => h) (Or.inl ⟨by rfl, ?_⟩) ?_ ?_
        rotate_left
        ·intro w'
         go_simp
         with_reducible rfl
        rotate_left
        ·simp only [Act.put, zT, z0, zS, i64_w, i32_w]
         rfl
        refine pure_ (i := 5) (N := some 25) (v := ?_) (a' := ?_) #[true, true, true, true, true, true, false, false, false, false] rfl rfl (any_of HT_.out (by kernel_rfl)) (fun _ _ _ h => h) (Or.inl ⟨by rfl, ?_⟩) ?_ ?_
        rotate_left
        ·intro w'
         go_simp
         with_reducible rfl
        rotate_left
        ·simp only [Act.put, zT, z0, zS, i64_w, i32_w]
         rfl
        refine pure_ (i := 6) (N := some 26) (v := ?_) (a' := ?_) #[true, true, true, true, true, true, true, false, false, false] rfl rfl (any_of HT_.out (by kernel_rfl)) (fun _ _ _ h => h) (Or.inl ⟨by rfl, ?_⟩) ?_ ?_
        rotate_left
        ·intro w'
         go_simp
         with_reducible rfl
        rotate_left
        ·simp only [Act.put, zT, z0, zS, i64_w, i32_w]
         rfl
        refine one_ (i := 7) (N := some 9) #[true, true, true, true, true, true, true, true, false, false] rfl rfl (one_of HT_.out (by kernel_rfl)) (by decide) (fun K hK => ?_)
        refine box_step ?hg (N := 9) ?hd (cs := #[.int .i64 0, .int .i64 0]) (t := 26) ?hr ?_; (case hd => rfl); (case hg => rfl); (case hr => first | (go_simp; done) | (go_simp; rfl))
        intro gb131 hg w105 hbox hb
        have n0_ := am (bB (g := gb120) (o := .cells #[.int .i64 a0_0, .int .i64 a0_1] 23 (0, 0)) (by (with_reducible repeat (first | refine bN ?_ _ | refine bD ?_ | refine bA ?_ _)); exact BK120.out) hb)
        have n1_ := am (bB (g := gb121) (o := .cells #[.int .i64 a1_0, .int .i64 a1_1] 23 (0, 0)) (by (with_reducible repeat (first | refine bN ?_ _ | refine bD ?_ | refine bA ?_ _)); exact BK121.out) hb)
        have n2_ := am (bB (g := gb125) (o := .cells #[.int .i64 t123, .int .i64 t124] 26 (0, 0)) (by (with_reducible repeat (first | refine bN ?_ _ | refine bD ?_ | refine bA ?_ _)); exact BK125.out) hb)
        have n3_ := am (below_step (by repeat (first | (with_reducible first | exact HB.out | apply lA | apply lN | apply lD | refine below_set ?_ GE120.out | refine below_set ?_ GE121.out | refine below_set ?_ GE125.out) | exact HB.out)) hb)
        have n4_ := am (hbox)
        have n5_ := am ((by rw [hg]; exact (below_size (by repeat (first | (with_reducible first | exact HB.out | apply lA | apply lN | apply lD | refine below_set ?_ GE120.out | refine below_set ?_ GE121.out | refine below_set ?_ GE125.out) | exact HB.out))) : w.heap.size ≤ gb131))
        have n6_ := n5_
        have n7_ := am ((by rw [hg]; exact Nat.ne_of_lt (blk_lt (g := gb120) (o := .cells #[.int .i64 a0_0, .int .i64 a0_1] 23 (0, 0)) (by (with_reducible repeat (first | refine bN ?_ _ | refine bD ?_ | refine bA ?_ _)); exact BK120.out)) : gb120 ≠ gb131))
        have n8_ := am ((by rw [hg]; exact Nat.ne_of_gt (blk_lt (g := gb120) (o := .cells #[.int .i64 a0_0, .int .i64 a0_1] 23 (0, 0)) (by (with_reducible repeat (first | refine bN ?_ _ | refine bD ?_ | refine bA ?_ _)); exact BK120.out)) : gb131 ≠ gb120))
        have n9_ := am ((by rw [hg]; exact Nat.ne_of_lt (blk_lt (g := gb121) (o := .cells #[.int .i64 a1_0, .int .i64 a1_1] 23 (0, 0)) (by (with_reducible repeat (first | refine bN ?_ _ | refine bD ?_ | refine bA ?_ _)); exact BK121.out)) : gb121 ≠ gb131))
        have n10_ := am ((by rw [hg]; exact Nat.ne_of_gt (blk_lt (g := gb121) (o := .cells #[.int .i64 a1_0, .int .i64 a1_1] 23 (0, 0)) (by (with_reducible repeat (first | refine bN ?_ _ | refine bD ?_ | refine bA ?_ _)); exact BK121.out)) : gb131 ≠ gb121))
        have n11_ := am ((by rw [hg]; exact Nat.ne_of_lt (blk_lt (g := gb125) (o := .cells #[.int .i64 t123, .int .i64 t124] 26 (0, 0)) (by (with_reducible repeat (first | refine bN ?_ _ | refine bD ?_ | refine bA ?_ _)); exact BK125.out)) : gb125 ≠ gb131))
        have n12_ := am ((by rw [hg]; exact Nat.ne_of_gt (blk_lt (g := gb125) (o := .cells #[.int .i64 t123, .int .i64 t124] 26 (0, 0)) (by (with_reducible repeat (first | refine bN ?_ _ | refine bD ?_ | refine bA ?_ _)); exact BK125.out)) : gb131 ≠ gb125))
        clear BK120
        clear BK121
        clear BK125
        clear HB
        have BK120 := n0_
        have BK121 := n1_
        have BK125 := n2_
        have HB := n3_
        have BK131 := n4_
        have GW131 := n5_
        have GE131 := n6_
        have NB120_131 := n7_
        have NB131_120 := n8_
        have NB121_131 := n9_
        have NB131_121 := n10_
        have NB125_131 := n11_
        have NB131_125 := n12_
        clear n0_ n1_ n2_ n3_ n4_ n5_ n6_ n7_ n8_ n9_ n10_ n11_ n12_
        clear hb hbox hg
        refine hK.out _ _ ⟨(blk_cell BK125.out 0).trans rfl, (blk_cell BK125.out 1).trans rfl, (blk_cell BK121.out 0).trans rfl, (blk_cell BK121.out 1).trans rfl⟩ (fun hHeld => ?_)
        clear hK K
        refine norm_ (a' := ?_) ?_ ?_
        rotate_left
        ·show Act.put _ (some 9) _ = _
         simp only [Act.put, zT, z0, zS, i64_w, i32_w]
         rfl
        exact norm_ (by simp only [putAll, Act.put, zT, z0, zS]) (hCont (gb131) _ ⟨hHeld, (by (with_reducible repeat (first | refine bN ?_ _ | refine bD ?_ | refine bA ?_ _)); exact BK120.out), (by (with_reducible repeat (first | refine bN ?_ _ | refine bD ?_ | refine bA ?_ _)); exact BK121.out), (by (with_reducible repeat (first | refine bN ?_ _ | refine bD ?_ | refine bA ?_ _)); exact BK125.out), (by (with_reducible repeat (first | refine bN ?_ _ | refine bD ?_ | refine bA ?_ _)); exact BK131.out), GW131.out, GE131.out, NB120_131.out, NB131_120.out, NB121_131.out, NB131_121.out, NB125_131.out, NB131_125.out, (by repeat (first | (with_reducible first | exact HB.out | apply lA | apply lN | apply lD | refine below_set ?_ GE120.out | refine below_set ?_ GE121.out | refine below_set ?_ GE125.out | refine below_set ?_ GE131.out) | exact HB.out))⟩)
       ·skip
        refine box_step ?hg (N := 9) ?hd (cs := #[.int .i64 0, .int .i64 0]) (t := 26) ?hr ?_; (case hd => rfl); (case hg => rfl); (case hr => first | (go_simp; done) | (go_simp; rfl))
        intro gb131 hg w104 hbox hb
        have n0_ := am (bB (g := gb120) (o := .cells #[.int .i64 a0_0, .int .i64 a0_1] 23 (0, 0)) (by (with_reducible repeat (first | refine bN ?_ _ | refine bD ?_ | refine bA ?_ _)); exact BK120.out) hb)
        have n1_ := am (bB (g := gb121) (o := .cells #[.int .i64 a1_0, .int .i64 a1_1] 23 (0, 0)) (by (with_reducible repeat (first | refine bN ?_ _ | refine bD ?_ | refine bA ?_ _)); exact BK121.out) hb)
        have n2_ := am (bB (g := gb125) (o := .cells #[.int .i64 t123, .int .i64 t124] 26 (0, 0)) (by (with_reducible repeat (first | refine bN ?_ _ | refine bD ?_ | refine bA ?_ _)); exact BK125.out) hb)
        have n3_ := am (below_step (by repeat (first | (with_reducible first | exact HB.out | apply lA | apply lN | apply lD | refine below_set ?_ GE120.out | refine below_set ?_ GE121.out | refine below_set ?_ GE125.out) | exact HB.out)) hb)
        have n4_ := am (hbox)
        have n5_ := am ((by rw [hg]; exact (below_size (by repeat (first | (with_reducible first | exact HB.out | apply lA | apply lN | apply lD | refine below_set ?_ GE120.out | refine below_set ?_ GE121.out | refine below_set ?_ GE125.out) | exact HB.out))) : w.heap.size ≤ gb131))
        have n6_ := n5_
        have n7_ := am ((by rw [hg]; exact Nat.ne_of_lt (blk_lt (g := gb120) (o := .cells #[.int .i64 a0_0, .int .i64 a0_1] 23 (0, 0)) (by (with_reducible repeat (first | refine bN ?_ _ | refine bD ?_ | refine bA ?_ _)); exact BK120.out)) : gb120 ≠ gb131))
        have n8_ := am ((by rw [hg]; exact Nat.ne_of_gt (blk_lt (g := gb120) (o := .cells #[.int .i64 a0_0, .int .i64 a0_1] 23 (0, 0)) (by (with_reducible repeat (first | refine bN ?_ _ | refine bD ?_ | refine bA ?_ _)); exact BK120.out)) : gb131 ≠ gb120))
        have n9_ := am ((by rw [hg]; exact Nat.ne_of_lt (blk_lt (g := gb121) (o := .cells #[.int .i64 a1_0, .int .i64 a1_1] 23 (0, 0)) (by (with_reducible repeat (first | refine bN ?_ _ | refine bD ?_ | refine bA ?_ _)); exact BK121.out)) : gb121 ≠ gb131))
        have n10_ := am ((by rw [hg]; exact Nat.ne_of_gt (blk_lt (g := gb121) (o := .cells #[.int .i64 a1_0, .int .i64 a1_1] 23 (0, 0)) (by (with_reducible repeat (first | refine bN ?_ _ | refine bD ?_ | refine bA ?_ _)); exact BK121.out)) : gb131 ≠ gb121))
        have n11_ := am ((by rw [hg]; exact Nat.ne_of_lt (blk_lt (g := gb125) (o := .cells #[.int .i64 t123, .int .i64 t124] 26 (0, 0)) (by (with_reducible repeat (first | refine bN ?_ _ | refine bD ?_ | refine bA ?_ _)); exact BK125.out)) : gb125 ≠ gb131))
        have n12_ := am ((by rw [hg]; exact Nat.ne_of_gt (blk_lt (g := gb125) (o := .cells #[.int .i64 t123, .int .i64 t124] 26 (0, 0)) (by (with_reducible repeat (first | refine bN ?_ _ | refine bD ?_ | refine bA ?_ _)); exact BK125.out)) : gb131 ≠ gb125))
        clear BK120
        clear BK121
        clear BK125
        clear HB
        have BK120 := n0_
        have BK121 := n1_
        have BK125 := n2_
        have HB := n3_
        have BK131 := n4_
        have GW131 := n5_
        have GE131 := n6_
        have NB120_131 := n7_
        have NB131_120 := n8_
        have NB121_131 := n9_
        have NB131_121 := n10_
        have NB125_131 := n11_
        have NB131_125 := n12_
        clear n0_ n1_ n2_ n3_ n4_ n5_ n6_ n7_ n8_ n9_ n10_ n11_ n12_
        clear hb hbox hg
        refine hK.out _ _ ⟨(blk_cell BK125.out 0).trans rfl, (blk_cell BK125.out 1).trans rfl, (blk_cell BK121.out 0).trans rfl, (blk_cell BK121.out 1).trans rfl⟩ (fun hHeld => ?_)
        clear hK K
        refine norm_ (a' := ?_) ?_ ?_
        rotate_left
        ·show Act.put _ (some 9) _ = _
         simp only [Act.put, zT, z0, zS, i64_w, i32_w]
         rfl
        refine one_ (i := 3) (N := some 24) #[true, true, true, true, false, false, false, true, false, false] rfl rfl (one_of HT_.out (by kernel_rfl)) (by decide) (fun K hK => ?_)
        refine goes_ Try.func14 (by kernel_rfl) rfl #[.agg #[.int .i64 t123, .int .i64 t124], .agg #[.int .i64 t126, .int .i64 t127]] (by rfl) rfl rfl (by (try simp only [List.map_toArray, List.map_cons, List.map_nil]); first | done | rfl | (simp only [List.length_drop, List.length_take]; rfl)) ?_
        with_reducible refine (budget_Budget_Pay.calls t123 t124 t126 t127 t128 t129 t130 _ A7.out).mono ?_
        rintro e w105 ⟨rfl, hb⟩
        refine ⟨_, rfl, ?_⟩
        have n0_ := am (bB (g := gb120) (o := .cells #[.int .i64 a0_0, .int .i64 a0_1] 23 (0, 0)) (by (with_reducible repeat (first | refine bN ?_ _ | refine bD ?_ | refine bA ?_ _)); exact BK120.out) hb)
        have n1_ := am (bB (g := gb121) (o := .cells #[.int .i64 a1_0, .int .i64 a1_1] 23 (0, 0)) (by (with_reducible repeat (first | refine bN ?_ _ | refine bD ?_ | refine bA ?_ _)); exact BK121.out) hb)
        have n2_ := am (bB (g := gb125) (o := .cells #[.int .i64 t123, .int .i64 t124] 26 (0, 0)) (by (with_reducible repeat (first | refine bN ?_ _ | refine bD ?_ | refine bA ?_ _)); exact BK125.out) hb)
        have n3_ := am (bB (g := gb131) (o := .cells #[.int .i64 0, .int .i64 0] 26 (0, 0)) (by (with_reducible repeat (first | refine bN ?_ _ | refine bD ?_ | refine bA ?_ _)); exact BK131.out) hb)
        have n4_ := am (below_step (by repeat (first | (with_reducible first | exact HB.out | apply lA | apply lN | apply lD | refine below_set ?_ GE120.out | refine below_set ?_ GE121.out | refine below_set ?_ GE125.out | refine below_set ?_ GE131.out) | exact HB.out)) hb)
        clear BK120
        clear BK121
        clear BK125
        clear BK131
        clear HB
        have BK120 := n0_
        have BK121 := n1_
        have BK125 := n2_
        have BK131 := n3_
        have HB := n4_
        clear n0_ n1_ n2_ n3_ n4_
        (try clear hb)
        (try clear hb2)
        (try clear hk)
        (try clear hi)
        refine hK.out _ _ ⟨(blk_cell BK125.out 0).trans rfl, (blk_cell BK125.out 1).trans rfl, (blk_cell BK121.out 0).trans rfl, (blk_cell BK121.out 1).trans rfl⟩ (fun hHeld => ?_)
        clear hK K
        refine norm_ (a' := ?_) ?_ ?_
        rotate_left
        ·show Act.put _ (some 24) _ = _
         simp only [Act.put, zT, z0, zS, i64_w, i32_w]
         rfl
        refine pure_ (i := 4) (N := some 20) (v := ?_) (a' := ?_) #[true, true, true, true, true, false, false, true, false, false] rfl rfl (any_of HT_.out (by kernel_rfl)) (fun _ _ _ h => h) (Or.inl ⟨by rfl, ?_⟩) ?_ ?_
        rotate_left
        ·intro w'
         go_simp
         with_reducible rfl
        rotate_left
        ·simp only [Act.put, zT, z0, zS, i64_w, i32_w]
         rfl
        refine pure_ (i := 5) (N := some 25) (v := ?_) (a' := ?_) #[true, true, true, true, true, true, false, true, false, false] rfl rfl (any_of HT_.out (by kernel_rfl)) (fun _ _ _ h => h) (Or.inl ⟨by rfl, ?_⟩) ?_ ?_
        rotate_left
        ·intro w'
         go_simp
         with_reducible rfl
        rotate_left
        ·simp only [Act.put, zT, z0, zS, i64_w, i32_w]
         rfl
        refine pure_ (i := 6) (N := some 26) (v := ?_) (a' := ?_) #[true, true, true, true, true, true, true, true, false, false] rfl rfl (any_of HT_.out (by kernel_rfl)) (fun _ _ _ h => h) (Or.inl ⟨by rfl, ?_⟩) ?_ ?_
        rotate_left
        ·intro w'
         go_simp
         with_reducible rfl
        rotate_left
        ·simp only [Act.put, zT, z0, zS, i64_w, i32_w]
         rfl
        exact norm_ (by simp only [putAll, Act.put, zT, z0, zS]) (hCont (gb131) _ ⟨hHeld, (by (with_reducible repeat (first | refine bN ?_ _ | refine bD ?_ | refine bA ?_ _)); exact BK120.out), (by (with_reducible repeat (first | refine bN ?_ _ | refine bD ?_ | refine bA ?_ _)); exact BK121.out), (by (with_reducible repeat (first | refine bN ?_ _ | refine bD ?_ | refine bA ?_ _)); exact BK125.out), (by (with_reducible repeat (first | refine bN ?_ _ | refine bD ?_ | refine bA ?_ _)); exact BK131.out), GW131.out, GE131.out, NB120_131.out, NB131_120.out, NB121_131.out, NB131_121.out, NB125_131.out, NB131_125.out, (by repeat (first | (with_reducible first | exact HB.out | apply lA | apply lN | apply lD | refine below_set ?_ GE120.out | refine below_set ?_ GE121.out | refine below_set ?_ GE125.out | refine below_set ?_ GE131.out) | exact HB.out))⟩)
      ·skip
       refine box_step ?hg (N := 9) ?hd (cs := #[.int .i64 0, .int .i64 0]) (t := 26) ?hr ?_; (case hd => rfl); (case hg => rfl); (case hr => first | (go_simp; done) | (go_simp; rfl))
       intro gb131 hg w103 hbox hb
       have n0_ := am (bB (g := gb120) (o := .cells #[.int .i64 a0_0, .int .i64 a0_1] 23 (0, 0)) (by (with_reducible repeat (first | refine bN ?_ _ | refine bD ?_ | refine bA ?_ _)); exact BK120.out) hb)
       have n1_ := am (bB (g := gb121) (o := .cells #[.int .i64 a1_0, .int .i64 a1_1] 23 (0, 0)) (by (with_reducible repeat (first | refine bN ?_ _ | refine bD ?_ | refine bA ?_ _)); exact BK121.out) hb)
       have n2_ := am (bB (g := gb125) (o := .cells #[.int .i64 t123, .int .i64 t124] 26 (0, 0)) (by (with_reducible repeat (first | refine bN ?_ _ | refine bD ?_ | refine bA ?_ _)); exact BK125.out) hb)
       have n3_ := am (below_step (by repeat (first | (with_reducible first | exact HB.out | apply lA | apply lN | apply lD | refine below_set ?_ GE120.out | refine below_set ?_ GE121.out | refine below_set ?_ GE125.out) | exact HB.out)) hb)
       have n4_ := am (hbox)
       have n5_ := am ((by rw [hg]; exact (below_size (by repeat (first | (with_reducible first | exact HB.out | apply lA | apply lN | apply lD | refine below_set ?_ GE120.out | refine below_set ?_ GE121.out | refine below_set ?_ GE125.out) | exact HB.out))) : w.heap.size ≤ gb131))
       have n6_ := n5_
       have n7_ := am ((by rw [hg]; exact Nat.ne_of_lt (blk_lt (g := gb120) (o := .cells #[.int .i64 a0_0, .int .i64 a0_1] 23 (0, 0)) (by (with_reducible repeat (first | refine bN ?_ _ | refine bD ?_ | refine bA ?_ _)); exact BK120.out)) : gb120 ≠ gb131))
       have n8_ := am ((by rw [hg]; exact Nat.ne_of_gt (blk_lt (g := gb120) (o := .cells #[.int .i64 a0_0, .int .i64 a0_1] 23 (0, 0)) (by (with_reducible repeat (first | refine bN ?_ _ | refine bD ?_ | refine bA ?_ _)); exact BK120.out)) : gb131 ≠ gb120))
       have n9_ := am ((by rw [hg]; exact Nat.ne_of_lt (blk_lt (g := gb121) (o := .cells #[.int .i64 a1_0, .int .i64 a1_1] 23 (0, 0)) (by (with_reducible repeat (first | refine bN ?_ _ | refine bD ?_ | refine bA ?_ _)); exact BK121.out)) : gb121 ≠ gb131))
       have n10_ := am ((by rw [hg]; exact Nat.ne_of_gt (blk_lt (g := gb121) (o := .cells #[.int .i64 a1_0, .int .i64 a1_1] 23 (0, 0)) (by (with_reducible repeat (first | refine bN ?_ _ | refine bD ?_ | refine bA ?_ _)); exact BK121.out)) : gb131 ≠ gb121))
       have n11_ := am ((by rw [hg]; exact Nat.ne_of_lt (blk_lt (g := gb125) (o := .cells #[.int .i64 t123, .int .i64 t124] 26 (0, 0)) (by (with_reducible repeat (first | refine bN ?_ _ | refine bD ?_ | refine bA ?_ _)); exact BK125.out)) : gb125 ≠ gb131))
       have n12_ := am ((by rw [hg]; exact Nat.ne_of_gt (blk_lt (g := gb125) (o := .cells #[.int .i64 t123, .int .i64 t124] 26 (0, 0)) (by (with_reducible repeat (first | refine bN ?_ _ | refine bD ?_ | refine bA ?_ _)); exact BK125.out)) : gb131 ≠ gb125))
       clear BK120
       clear BK121
       clear BK125
       clear HB
       have BK120 := n0_
       have BK121 := n1_
       have BK125 := n2_
       have HB := n3_
       have BK131 := n4_
       have GW131 := n5_
       have GE131 := n6_
       have NB120_131 := n7_
       have NB131_120 := n8_
       have NB121_131 := n9_
       have NB131_121 := n10_
       have NB125_131 := n11_
       have NB131_125 := n12_
       clear n0_ n1_ n2_ n3_ n4_ n5_ n6_ n7_ n8_ n9_ n10_ n11_ n12_
       clear hb hbox hg
       refine hK.out _ _ ⟨(blk_cell BK125.out 0).trans rfl, (blk_cell BK125.out 1).trans rfl, (blk_cell BK121.out 0).trans rfl, (blk_cell BK121.out 1).trans rfl⟩ (fun hHeld => ?_)
       clear hK K
       refine norm_ (a' := ?_) ?_ ?_
       rotate_left
       ·show Act.put _ (some 9) _ = _
        simp only [Act.put, zT, z0, zS, i64_w, i32_w]
        rfl
       refine one_ (i := 2) (N := some 23) #[true, true, true, false, false, false, false, true, false, false] rfl rfl (one_of HT_.out (by kernel_rfl)) (by decide) (fun K hK => ?_)
       refine goes_ Try.func15 (by kernel_rfl) rfl #[.agg #[.int .i64 a1_0, .int .i64 a1_1]] (by rfl) rfl rfl (by (try simp only [List.map_toArray, List.map_cons, List.map_nil]); first | done | rfl | (simp only [List.length_drop, List.length_take]; rfl)) ?_
       with_reducible refine (reredoslaw06_made.calls a1_0 a1_1 t126 t127 _ A6.out).mono ?_
       rintro e w104 ⟨rfl, hb⟩
       refine ⟨_, rfl, ?_⟩
       have n0_ := am (bB (g := gb120) (o := .cells #[.int .i64 a0_0, .int .i64 a0_1] 23 (0, 0)) (by (with_reducible repeat (first | refine bN ?_ _ | refine bD ?_ | refine bA ?_ _)); exact BK120.out) hb)
       have n1_ := am (bB (g := gb121) (o := .cells #[.int .i64 a1_0, .int .i64 a1_1] 23 (0, 0)) (by (with_reducible repeat (first | refine bN ?_ _ | refine bD ?_ | refine bA ?_ _)); exact BK121.out) hb)
       have n2_ := am (bB (g := gb125) (o := .cells #[.int .i64 t123, .int .i64 t124] 26 (0, 0)) (by (with_reducible repeat (first | refine bN ?_ _ | refine bD ?_ | refine bA ?_ _)); exact BK125.out) hb)
       have n3_ := am (bB (g := gb131) (o := .cells #[.int .i64 0, .int .i64 0] 26 (0, 0)) (by (with_reducible repeat (first | refine bN ?_ _ | refine bD ?_ | refine bA ?_ _)); exact BK131.out) hb)
       have n4_ := am (below_step (by repeat (first | (with_reducible first | exact HB.out | apply lA | apply lN | apply lD | refine below_set ?_ GE120.out | refine below_set ?_ GE121.out | refine below_set ?_ GE125.out | refine below_set ?_ GE131.out) | exact HB.out)) hb)
       clear BK120
       clear BK121
       clear BK125
       clear BK131
       clear HB
       have BK120 := n0_
       have BK121 := n1_
       have BK125 := n2_
       have BK131 := n3_
       have HB := n4_
       clear n0_ n1_ n2_ n3_ n4_
       (try clear hb)
       (try clear hb2)
       (try clear hk)
       (try clear hi)
       refine hK.out _ _ ⟨(blk_cell BK125.out 0).trans rfl, (blk_cell BK125.out 1).trans rfl, (blk_cell BK121.out 0).trans rfl, (blk_cell BK121.out 1).trans rfl⟩ (fun hHeld => ?_)
       clear hK K
       refine norm_ (a' := ?_) ?_ ?_
       rotate_left
       ·show Act.put _ (some 23) _ = _
        simp only [Act.put, zT, z0, zS, i64_w, i32_w]
        rfl
       refine one_ (i := 3) (N := some 24) #[true, true, true, true, false, false, false, true, false, false] rfl rfl (one_of HT_.out (by kernel_rfl)) (by decide) (fun K hK => ?_)
       refine goes_ Try.func14 (by kernel_rfl) rfl #[.agg #[.int .i64 t123, .int .i64 t124], .agg #[.int .i64 t126, .int .i64 t127]] (by rfl) rfl rfl (by (try simp only [List.map_toArray, List.map_cons, List.map_nil]); first | done | rfl | (simp only [List.length_drop, List.length_take]; rfl)) ?_
       with_reducible refine (budget_Budget_Pay.calls t123 t124 t126 t127 t128 t129 t130 _ A7.out).mono ?_
       rintro e w105 ⟨rfl, hb⟩
       refine ⟨_, rfl, ?_⟩
       have n0_ := am (bB (g := gb120) (o := .cells #[.int .i64 a0_0, .int .i64 a0_1] 23 (0, 0)) (by (with_reducible repeat (first | refine bN ?_ _ | refine bD ?_ | refine bA ?_ _)); exact BK120.out) hb)
       have n1_ := am (bB (g := gb121) (o := .cells #[.int .i64 a1_0, .int .i64 a1_1] 23 (0, 0)) (by (with_reducible repeat (first | refine bN ?_ _ | refine bD ?_ | refine bA ?_ _)); exact BK121.out) hb)
       have n2_ := am (bB (g := gb125) (o := .cells #[.int .i64 t123, .int .i64 t124] 26 (0, 0)) (by (with_reducible repeat (first | refine bN ?_ _ | refine bD ?_ | refine bA ?_ _)); exact BK125.out) hb)
       have n3_ := am (bB (g := gb131) (o := .cells #[.int .i64 0, .int .i64 0] 26 (0, 0)) (by (with_reducible repeat (first | refine bN ?_ _ | refine bD ?_ | refine bA ?_ _)); exact BK131.out) hb)
       have n4_ := am (below_step (by repeat (first | (with_reducible first | exact HB.out | apply lA | apply lN | apply lD | refine below_set ?_ GE120.out | refine below_set ?_ GE121.out | refine below_set ?_ GE125.out | refine below_set ?_ GE131.out) | exact HB.out)) hb)
       clear BK120
       clear BK121
       clear BK125
       clear BK131
       clear HB
       have BK120 := n0_
       have BK121 := n1_
       have BK125 := n2_
       have BK131 := n3_
       have HB := n4_
       clear n0_ n1_ n2_ n3_ n4_
       (try clear hb)
       (try clear hb2)
       (try clear hk)
       (try clear hi)
       refine hK.out _ _ ⟨(blk_cell BK125.out 0).trans rfl, (blk_cell BK125.out 1).trans rfl, (blk_cell BK121.out 0).trans rfl, (blk_cell BK121.out 1).trans rfl⟩ (fun hHeld => ?_)
       clear hK K
       refine norm_ (a' := ?_) ?_ ?_
       rotate_left
       ·show Act.put _ (some 24) _ = _
        simp only [Act.put, zT, z0, zS, i64_w, i32_w]
        rfl
       refine pure_ (i := 4) (N := some 20) (v := ?_) (a' := ?_) #[true, true, true, true, true, false, false, true, false, false] rfl rfl (any_of HT_.out (by kernel_rfl)) (fun _ _ _ h => h) (Or.inl ⟨by rfl, ?_⟩) ?_ ?_
       rotate_left
       ·intro w'
        go_simp
        with_reducible rfl
       rotate_left
       ·simp only [Act.put, zT, z0, zS, i64_w, i32_w]
        rfl
       refine pure_ (i := 5) (N := some 25) (v := ?_) (a' := ?_) #[true, true, true, true, true, true, false, true, false, false] rfl rfl (any_of HT_.out (by kernel_rfl)) (fun _ _ _ h => h) (Or.inl ⟨by rfl, ?_⟩) ?_ ?_
       rotate_left
       ·intro w'
        go_simp
        with_reducible rfl
       rotate_left
       ·simp only [Act.put, zT, z0, zS, i64_w, i32_w]
        rfl
       refine pure_ (i := 6) (N := some 26) (v := ?_) (a' := ?_) #[true, true, true, true, true, true, true, true, false, false] rfl rfl (any_of HT_.out (by kernel_rfl)) (fun _ _ _ h => h) (Or.inl ⟨by rfl, ?_⟩) ?_ ?_
       rotate_left
       ·intro w'
        go_simp
        with_reducible rfl
       rotate_left
       ·simp only [Act.put, zT, z0, zS, i64_w, i32_w]
        rfl
       exact norm_ (by simp only [putAll, Act.put, zT, z0, zS]) (hCont (gb131) _ ⟨hHeld, (by (with_reducible repeat (first | refine bN ?_ _ | refine bD ?_ | refine bA ?_ _)); exact BK120.out), (by (with_reducible repeat (first | refine bN ?_ _ | refine bD ?_ | refine bA ?_ _)); exact BK121.out), (by (with_reducible repeat (first | refine bN ?_ _ | refine bD ?_ | refine bA ?_ _)); exact BK125.out), (by (with_reducible repeat (first | refine bN ?_ _ | refine bD ?_ | refine bA ?_ _)); exact BK131.out), GW131.out, GE131.out, NB120_131.out, NB131_120.out, NB121_131.out, NB131_121.out, NB125_131.out, NB131_125.out, (by repeat (first | (with_reducible first | exact HB.out | apply lA | apply lN | apply lD | refine below_set ?_ GE120.out | refine below_set ?_ GE121.out | refine below_set ?_ GE125.out | refine below_set ?_ GE131.out) | exact HB.out))⟩)
     rintro gb131 w106 ⟨hS_, h0_, h1_, h2_, h3_, h4_, h5_, h6_, h7_, h8_, h9_, h10_, h11_, h12_⟩
     have n0_ : Aside0 (w106.heap[gb120]? = some (.cells #[.int .i64 a0_0, .int .i64 a0_1] 23 (0, 0))) := ⟨h0_⟩
     have n1_ : Aside0 (w106.heap[gb121]? = some (.cells #[.int .i64 a1_0, .int .i64 a1_1] 23 (0, 0))) := ⟨h1_⟩
     have n2_ : Aside0 (w106.heap[gb125]? = some (.cells #[.int .i64 t123, .int .i64 t124] 26 (0, 0))) := ⟨h2_⟩
     have n3_ : Aside0 (w106.heap[gb131]? = some (.cells #[.int .i64 0, .int .i64 0] 26 (0, 0))) := ⟨h3_⟩
     have n4_ : Aside0 (w.heap.size ≤ gb131) := ⟨h4_⟩
     have n5_ : Aside0 (w.heap.size ≤ gb131) := ⟨h5_⟩
     have n6_ : Aside0 (gb120 ≠ gb131) := ⟨h6_⟩
     have n7_ : Aside0 (gb131 ≠ gb120) := ⟨h7_⟩
     have n8_ : Aside0 (gb121 ≠ gb131) := ⟨h8_⟩
     have n9_ : Aside0 (gb131 ≠ gb121) := ⟨h9_⟩
     have n10_ : Aside0 (gb125 ≠ gb131) := ⟨h10_⟩
     have n11_ : Aside0 (gb131 ≠ gb125) := ⟨h11_⟩
     have n12_ : Aside0 (Below w.heap.size w w106) := ⟨h12_⟩
     clear BK120
     clear BK121
     clear BK125
     clear HB
     clear h0_ h1_ h2_ h3_ h4_ h5_ h6_ h7_ h8_ h9_ h10_ h11_ h12_
     have BK120 := n0_
     have BK121 := n1_
     have BK125 := n2_
     have BK131 := n3_
     have GW131 := n4_
     have GE131 := n5_
     have NB120_131 := n6_
     have NB131_120 := n7_
     have NB121_131 := n8_
     have NB131_121 := n9_
     have NB125_131 := n10_
     have NB131_125 := n11_
     have HB := n12_
     clear n0_ n1_ n2_ n3_ n4_ n5_ n6_ n7_ n8_ n9_ n10_ n11_ n12_
     have hHeld : w106.cell? ⟨gb125, 0, none⟩ = some (.int .i64 t123) ∧ w106.cell? ⟨gb125, 1, none⟩ = some (.int .i64 t124) ∧ w106.cell? ⟨gb121, 0, none⟩ = some (.int .i64 a1_0) ∧ w106.cell? ⟨gb121, 1, none⟩ = some (.int .i64 a1_1) := hS_
     refine norm_ (a' := ?_) ?_ ?_
     rotate_left
     ·simp only [putAll, Act.put, zT, z0, zS]
      rfl
     refine one_ (i := 8) (N := none) #[true, true, true, true, true, true, true, true, true, false] rfl rfl (one_of HT_.out (by kernel_rfl)) (by decide) (fun K hK => ?_)
     have hs107 : w106.cell? ⟨gb131, 0, none⟩ = some (.int .i64 0) := (blk_cell BK131.out 0).trans rfl
     have hfs107 := blk_frozen BK131.out 0
     have hns107_0 := NB120_131.out
     have hns107_1 := NB121_131.out
     have hns107_2 := NB125_131.out
     have hms107_0 := NB131_120.out
     have hms107_1 := NB131_121.out
     have hms107_2 := NB131_125.out
     have hs108 : w106.cell? ⟨gb131, 1, none⟩ = some (.int .i64 0) := (blk_cell BK131.out 1).trans rfl
     have hfs108 := blk_frozen BK131.out 1
     have hns108_0 := NB120_131.out
     have hns108_1 := NB121_131.out
     have hns108_2 := NB125_131.out
     have hms108_0 := NB131_120.out
     have hms108_1 := NB131_121.out
     have hms108_2 := NB131_125.out
     refine skip_ (w1 := ?_) (by rfl) rfl ?_ ?_
     rotate_left
     ·go_simp
      rfl
     refine hK.out _ _ ⟨((cell_far (p := ⟨gb131, _, none⟩) NB125_131.out _).trans (((cell_far (p := ⟨gb131, _, none⟩) NB125_131.out _).trans (hHeld.1)))), ((cell_far (p := ⟨gb131, _, none⟩) NB125_131.out _).trans (((cell_far (p := ⟨gb131, _, none⟩) NB125_131.out _).trans (hHeld.2.1)))), ((cell_far (p := ⟨gb131, _, none⟩) NB121_131.out _).trans (((cell_far (p := ⟨gb131, _, none⟩) NB121_131.out _).trans (hHeld.2.2.1)))), ((cell_far (p := ⟨gb131, _, none⟩) NB121_131.out _).trans (((cell_far (p := ⟨gb131, _, none⟩) NB121_131.out _).trans (hHeld.2.2.2))))⟩ (fun hHeld => ?_)
     clear hK K
     refine pure_ (i := 9) (N := some 10) (v := ?_) (a' := ?_) #[true, true, true, true, true, true, true, true, true, true] rfl rfl (any_of HT_.out (by kernel_rfl)) (fun _ _ _ h => h) (Or.inl ⟨by rfl, ?_⟩) ?_ ?_
     rotate_left
     ·intro w'
      go_simp
      with_reducible rfl
     rotate_left
     ·simp only [Act.put, zT, z0, zS, i64_w, i32_w]
      rfl
     refine done_ (done_of HT_.out (by kernel_rfl)) ?_
     have hnb109 := NB125_131.out
     have hnc109 := NB131_125.out
     have hcz110_0 : w106.cell? ⟨gb125, 0, none⟩ = some (.int .i64 t123) := (blk_cell BK125.out 0).trans rfl
     have hcz110_1 : w106.cell? ⟨gb125, 1, none⟩ = some (.int .i64 t124) := (blk_cell BK125.out 1).trans rfl
     have hfz110_0 := blk_frozen BK125.out 0
     have hfz110_1 := blk_frozen BK125.out 1
     try go_wp2_with (first | ((with_reducible refine gate_dst (N := 11) rfl ?_); refine box_event ?hg (N := 11) ?hd (cs := #[.int .i64 0, .int .i64 0]) (t := 26) ?hr ?_; (case hd => rfl); (case hg => rfl); (case hr => first | (go_simp; done) | (go_simp; rfl)); intro gb132 hg w111 hbox hb; have n0_ := am (bB (g := gb120) (o := .cells #[.int .i64 a0_0, .int .i64 a0_1] 23 (0, 0)) (by (with_reducible repeat (first | refine bN ?_ _ | refine bD ?_ | refine bA ?_ _)); refine blk_far ?_ NB120_131.out _; (with_reducible repeat (first | refine bN ?_ _ | refine bD ?_ | refine bA ?_ _)); refine blk_far ?_ NB120_131.out _; (with_reducible repeat (first | refine bN ?_ _ | refine bD ?_ | refine bA ?_ _)); exact BK120.out) hb); have n1_ := am (bB (g := gb121) (o := .cells #[.int .i64 a1_0, .int .i64 a1_1] 23 (0, 0)) (by (with_reducible repeat (first | refine bN ?_ _ | refine bD ?_ | refine bA ?_ _)); refine blk_far ?_ NB121_131.out _; (with_reducible repeat (first | refine bN ?_ _ | refine bD ?_ | refine bA ?_ _)); refine blk_far ?_ NB121_131.out _; (with_reducible repeat (first | refine bN ?_ _ | refine bD ?_ | refine bA ?_ _)); exact BK121.out) hb); have n2_ := am (bB (g := gb125) (o := .cells #[.int .i64 t123, .int .i64 t124] 26 (0, 0)) (by (with_reducible repeat (first | refine bN ?_ _ | refine bD ?_ | refine bA ?_ _)); refine blk_far ?_ NB125_131.out _; (with_reducible repeat (first | refine bN ?_ _ | refine bD ?_ | refine bA ?_ _)); refine blk_far ?_ NB125_131.out _; (with_reducible repeat (first | refine bN ?_ _ | refine bD ?_ | refine bA ?_ _)); exact BK125.out) hb); have n3_ := am (bB (g := gb131) (o := .cells #[.int .i64 t128, .int .i64 t129] 26 (0, 0)) (by (with_reducible repeat (first | refine bN ?_ _ | refine bD ?_ | refine bA ?_ _)); refine blk_put (cs := #[.int .i64 t128, .int .i64 0]) ?_ 1 _ rfl; (with_reducible repeat (first | refine bN ?_ _ | refine bD ?_ | refine bA ?_ _)); refine blk_put (cs := #[.int .i64 0, .int .i64 0]) ?_ 0 _ rfl; (with_reducible repeat (first | refine bN ?_ _ | refine bD ?_ | refine bA ?_ _)); exact BK131.out) hb); have n4_ := am (below_step (by repeat (first | (with_reducible first | exact HB.out | apply lA | apply lN | apply lD | refine below_set ?_ GE120.out | refine below_set ?_ GE121.out | refine below_set ?_ GE125.out | refine below_set ?_ GE131.out) | exact HB.out)) hb); have n5_ := am (hbox); have n6_ := am ((by rw [hg]; exact (below_size (by repeat (first | (with_reducible first | exact HB.out | apply lA | apply lN | apply lD | refine below_set ?_ GE120.out | refine below_set ?_ GE121.out | refine below_set ?_ GE125.out | refine below_set ?_ GE131.out) | exact HB.out))) : w.heap.size ≤ gb132)); have n7_ := n6_; have n8_ := am ((by rw [hg]; exact Nat.ne_of_lt (blk_lt (g := gb120) (o := .cells #[.int .i64 a0_0, .int .i64 a0_1] 23 (0, 0)) (by (with_reducible repeat (first | refine bN ?_ _ | refine bD ?_ | refine bA ?_ _)); refine blk_far ?_ NB120_131.out _; (with_reducible repeat (first | refine bN ?_ _ | refine bD ?_ | refine bA ?_ _)); refine blk_far ?_ NB120_131.out _; (with_reducible repeat (first | refine bN ?_ _ | refine bD ?_ | refine bA ?_ _)); exact BK120.out)) : gb120 ≠ gb132)); have n9_ := am ((by rw [hg]; exact Nat.ne_of_gt (blk_lt (g := gb120) (o := .cells #[.int .i64 a0_0, .int .i64 a0_1] 23 (0, 0)) (by (with_reducible repeat (first | refine bN ?_ _ | refine bD ?_ | refine bA ?_ _)); refine blk_far ?_ NB120_131.out _; (with_reducible repeat (first | refine bN ?_ _ | refine bD ?_ | refine bA ?_ _)); refine blk_far ?_ NB120_131.out _; (with_reducible repeat (first | refine bN ?_ _ | refine bD ?_ | refine bA ?_ _)); exact BK120.out)) : gb132 ≠ gb120)); have n10_ := am ((by rw [hg]; exact Nat.ne_of_lt (blk_lt (g := gb121) (o := .cells #[.int .i64 a1_0, .int .i64 a1_1] 23 (0, 0)) (by (with_reducible repeat (first | refine bN ?_ _ | refine bD ?_ | refine bA ?_ _)); refine blk_far ?_ NB121_131.out _; (with_reducible repeat (first | refine bN ?_ _ | refine bD ?_ | refine bA ?_ _)); refine blk_far ?_ NB121_131.out _; (with_reducible repeat (first | refine bN ?_ _ | refine bD ?_ | refine bA ?_ _)); exact BK121.out)) : gb121 ≠ gb132)); have n11_ := am ((by rw [hg]; exact Nat.ne_of_gt (blk_lt (g := gb121) (o := .cells #[.int .i64 a1_0, .int .i64 a1_1] 23 (0, 0)) (by (with_reducible repeat (first | refine bN ?_ _ | refine bD ?_ | refine bA ?_ _)); refine blk_far ?_ NB121_131.out _; (with_reducible repeat (first | refine bN ?_ _ | refine bD ?_ | refine bA ?_ _)); refine blk_far ?_ NB121_131.out _; (with_reducible repeat (first | refine bN ?_ _ | refine bD ?_ | refine bA ?_ _)); exact BK121.out)) : gb132 ≠ gb121)); have n12_ := am ((by rw [hg]; exact Nat.ne_of_lt (blk_lt (g := gb125) (o := .cells #[.int .i64 t123, .int .i64 t124] 26 (0, 0)) (by (with_reducible repeat (first | refine bN ?_ _ | refine bD ?_ | refine bA ?_ _)); refine blk_far ?_ NB125_131.out _; (with_reducible repeat (first | refine bN ?_ _ | refine bD ?_ | refine bA ?_ _)); refine blk_far ?_ NB125_131.out _; (with_reducible repeat (first | refine bN ?_ _ | refine bD ?_ | refine bA ?_ _)); exact BK125.out)) : gb125 ≠ gb132)); have n13_ := am ((by rw [hg]; exact Nat.ne_of_gt (blk_lt (g := gb125) (o := .cells #[.int .i64 t123, .int .i64 t124] 26 (0, 0)) (by (with_reducible repeat (first | refine bN ?_ _ | refine bD ?_ | refine bA ?_ _)); refine blk_far ?_ NB125_131.out _; (with_reducible repeat (first | refine bN ?_ _ | refine bD ?_ | refine bA ?_ _)); refine blk_far ?_ NB125_131.out _; (with_reducible repeat (first | refine bN ?_ _ | refine bD ?_ | refine bA ?_ _)); exact BK125.out)) : gb132 ≠ gb125)); have n14_ := am ((by rw [hg]; exact Nat.ne_of_lt (blk_lt (g := gb131) (o := .cells #[.int .i64 t128, .int .i64 t129] 26 (0, 0)) (by (with_reducible repeat (first | refine bN ?_ _ | refine bD ?_ | refine bA ?_ _)); refine blk_put (cs := #[.int .i64 t128, .int .i64 0]) ?_ 1 _ rfl; (with_reducible repeat (first | refine bN ?_ _ | refine bD ?_ | refine bA ?_ _)); refine blk_put (cs := #[.int .i64 0, .int .i64 0]) ?_ 0 _ rfl; (with_reducible repeat (first | refine bN ?_ _ | refine bD ?_ | refine bA ?_ _)); exact BK131.out)) : gb131 ≠ gb132)); have n15_ := am ((by rw [hg]; exact Nat.ne_of_gt (blk_lt (g := gb131) (o := .cells #[.int .i64 t128, .int .i64 t129] 26 (0, 0)) (by (with_reducible repeat (first | refine bN ?_ _ | refine bD ?_ | refine bA ?_ _)); refine blk_put (cs := #[.int .i64 t128, .int .i64 0]) ?_ 1 _ rfl; (with_reducible repeat (first | refine bN ?_ _ | refine bD ?_ | refine bA ?_ _)); refine blk_put (cs := #[.int .i64 0, .int .i64 0]) ?_ 0 _ rfl; (with_reducible repeat (first | refine bN ?_ _ | refine bD ?_ | refine bA ?_ _)); exact BK131.out)) : gb132 ≠ gb131)); clear BK120; clear BK121; clear BK125; clear BK131; clear HB; have BK120 := n0_; have BK121 := n1_; have BK125 := n2_; have BK131 := n3_; have HB := n4_; have BK132 := n5_; have GW132 := n6_; have GE132 := n7_; have NB120_132 := n8_; have NB132_120 := n9_; have NB121_132 := n10_; have NB132_121 := n11_; have NB125_132 := n12_; have NB132_125 := n13_; have NB131_132 := n14_; have NB132_131 := n15_; clear n0_ n1_ n2_ n3_ n4_ n5_ n6_ n7_ n8_ n9_ n10_ n11_ n12_ n13_ n14_ n15_; clear hb hbox hg; have hnb112 := NB132_120.out; have hnc112 := NB120_132.out; have hnb113 := NB132_121.out; have hnc113 := NB121_132.out; have hnb114 := NB132_125.out; have hnc114 := NB125_132.out; have hnb115 := NB132_131.out; have hnc115 := NB131_132.out; have hcz116_0 : w111.cell? ⟨gb132, 0, none⟩ = some (.int .i64 0) := (blk_cell BK132.out 0).trans rfl; have hcz116_1 : w111.cell? ⟨gb132, 1, none⟩ = some (.int .i64 0) := (blk_cell BK132.out 1).trans rfl; have hfz116_0 := blk_frozen BK132.out 0; have hfz116_1 := blk_frozen BK132.out 1; have hnb117 := NB131_120.out; have hnc117 := NB120_131.out; have hnb118 := NB131_121.out; have hnc118 := NB121_131.out; have hcz119_0 : w111.cell? ⟨gb131, 0, none⟩ = some (.int .i64 t128) := (blk_cell BK131.out 0).trans rfl; have hcz119_1 : w111.cell? ⟨gb131, 1, none⟩ = some (.int .i64 t129) := (blk_cell BK131.out 1).trans rfl; have hfz119_0 := blk_frozen BK131.out 0; have hfz119_1 := blk_frozen BK131.out 1; have hcz120_0 : w111.cell? ⟨gb121, 0, none⟩ = some (.int .i64 a1_0) := (blk_cell BK121.out 0).trans rfl; have hcz120_1 : w111.cell? ⟨gb121, 1, none⟩ = some (.int .i64 a1_1) := (blk_cell BK121.out 1).trans rfl; have hfz120_0 := blk_frozen BK121.out 0; have hfz120_1 := blk_frozen BK121.out 1))
     go_ret
     exact ⟨by first | rfl | (simp [errW_none, errW_some] <;> rfl) | (simp [*, errW_none, errW_some] <;> rfl), by repeat (first | (with_reducible first | exact HB.out | apply lA | apply lN | apply lD | refine below_set ?_ GE120.out | refine below_set ?_ GE121.out | refine below_set ?_ GE125.out | refine below_set ?_ GE131.out | refine below_set ?_ GE132.out) | exact HB.out)⟩
   ·rw [if_neg c59] at H
    exact absurd H (by simp)
  ·replace c58 := Bool.eq_false_iff.mpr c58
   subst c58
   have H1 : (none) = some r := by rw [if_neg (show ¬ (false = true) by decide)] at H; exact H
   clear H
   have H := H1
   clear H1
   exact absurd H (by simp)

/-- What is left to show of reredoslaw06_BudgetNever: of numbers and lists alone. -/
def reredoslaw06_BudgetNever.Pure : Prop := ∀ (a0_0 : Int) (a0_1 : Int) (a1_0 : Int) (a1_1 : Int) (a2 : Int), ((Lit.int .i64 a0_0).wf = true) → ((Lit.int .i64 a0_1).wf = true) → ((Lit.int .i64 a1_0).wf = true) → ((Lit.int .i64 a1_1).wf = true) → ((Lit.int .u32 a2).wf = true) → reredoslaw06_BudgetNever.f a0_0 a0_1 a1_0 a1_1 a2 = some true

end Go.Proofs.Ytphonhplgholmaa.P
