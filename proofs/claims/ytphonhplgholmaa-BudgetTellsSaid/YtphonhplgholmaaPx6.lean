/- Walks, written by a program out of the translation. -/
import Derived.Test.YtphonhplgholmaaPx0
import Derived.Test.YtphonhplgholmaaPx1
import Derived.Test.YtphonhplgholmaaPx3
import Derived.Test.YtphonhplgholmaaPx5
import Derived.Test.YtphonhplgholmaaGBase
import Derived.Test.YtphonhplgholmaaGBudget
namespace Go.Proofs.Ytphonhplgholmaa.P
open Go.RowKit Go.Proofs.YtphonhplgholmaaW.PrintWords Go.Proofs.YtphonhplgholmaaW.PrintLast Go.Proofs.YtphonhplgholmaaW.PrintMore
attribute [local go_sem] max2_int min2_int max_two min_two max_three min_three max_four min_four   -- for this text's walks alone
set_option linter.unusedVariables false
set_option linter.unusedSimpArgs false

attribute [local go_sem high] eqA23
/-! ### reredoslaw06_BudgetTells: function 4 -/
def reredoslaw06_BudgetTells.f (k : Nat) (a0_0 : Int) (a0_1 : Int) (a1_0 : Int) (a1_1 : Int) (a2 : Int) : Option (Bool) := (reredoslaw06_shown.f).bind fun t164 => ((reredoslaw06_made.f a0_0 a0_1).bind fun bt165 => ((reredoslaw06_made.f a1_0 a1_1).bind fun bt167 => ((budget_Budget_Pay.f bt165.1 bt165.2 bt167.1 bt167.2).bind fun bt169 => ((reredosref06_Pay.f k a0_0 a0_1 a1_0 a1_1).bind fun bt173 => (if t164 = true then ((reredoslaw06_made.f a0_0 a0_1).bind fun bt177 => ((reredoslaw06_made.f a1_0 a1_1).bind fun bt179 => ((budget_Budget_Can.f bt177.1 bt177.2 bt179.1 bt179.2).bind fun t181 => ((reredosref06_Can.f a0_0 a0_1 a1_0 a1_1).bind fun t182 => (if (t181 == t182) = true then ((reredoslaw06_real.f bt169.1 bt169.2.1).bind fun bt183 => (if (bt183.1 == bt173.1 && (bt183.2 == bt173.2.1)) = true then (if bt169.2.2 = bt173.2.2 then ((reredoslaw06_made.f a0_0 a0_1).bind fun bt185 => ((budget_Times.f bt185.1 bt185.2 a2).bind fun bt187 => ((reredoslaw06_real.f bt187.1 bt187.2).bind fun bt189 => ((reredosref06_Times.f k a0_0 a0_1 a2).bind fun bt191 => (if (bt189.1 == bt191.1 && (bt189.2 == bt191.2)) = true then ((budget_New.f a0_0 a2).bind fun bt193 => ((reredoslaw06_real.f bt193.1 bt193.2).bind fun bt195 => ((reredosref06_New.f a0_0 a2).bind fun bt197 => (some (bt195.1 == bt197.1 && (bt195.2 == bt197.2)))))) else (none)))))) else (none)) else (none))) else (none)))))) else (none))))))
theorem reredoslaw06_BudgetTells.mono : ∀ a0 a1 a2 a3 a4 k, LeO (reredoslaw06_BudgetTells.f k a0 a1 a2 a3 a4) (reredoslaw06_BudgetTells.f (k + 1) a0 a1 a2 a3 a4) := by
 intro a0 a1 a2 a3 a4 k
 unfold reredoslaw06_BudgetTells.f
 repeat' first
   | (with_reducible exact reredosref06_Pay.mono _ _ _ _ _)
   | (with_reducible exact reredosref06_Times.mono _ _ _ _)
   | (with_reducible exact LeO.refl _)
   | (with_reducible exact LeO.none _)
   | (with_reducible refine LeO.ite ?_ ?_)
   | (with_reducible refine LeO.bind ?_ (fun _ => ?_))
   | exact reredosref06_Pay.mono _ _ _ _ _
   | exact reredosref06_Times.mono _ _ _ _
   | exact LeO.none _
   | refine LeO.ite ?_ ?_
   | refine LeO.bind ?_ (fun _ => ?_)
def reredoslaw06_BudgetTells.T2 : Bool × List (List Nat × List Nat) := (true, [([], []), ([0], [0]), ([], []), ([2, 1], [2]), ([1, 3, 3], [1, 3]), ([4], [4]), ([5], [5]), ([5], [5]), ([], []), ([8, 6, 4, 0, 1, 2, 3, 4, 5, 6, 8], [6, 8]), ([7, 9, 0, 1, 2, 3, 4, 5, 6, 7, 8, 9], [7])])
def reredoslaw06_BudgetTells.B2 : List Nat := [0, 1, 0, 7, 15, 31, 63, 63, 0, 383, 1023]
theorem reredoslaw06_BudgetTells.tab2 : rtab .any (opsOf Try.f4 2) = reredoslaw06_BudgetTells.T2 := by kernel_rfl
theorem reredoslaw06_BudgetTells.bits2 : waitsOk reredoslaw06_BudgetTells.T2.2 reredoslaw06_BudgetTells.B2 = true := by kernel_rfl
def reredoslaw06_BudgetTells.T4 : Bool × List (List Nat × List Nat) := (true, [([], []), ([0], [0]), ([1], [1]), ([2, 1, 1], [1, 2]), ([1], [1]), ([4, 3, 1], [1, 4]), ([3, 5, 5, 1], [1, 3, 5]), ([1], [1]), ([1], [1]), ([7, 8, 6, 1], [1, 7, 8]), ([6, 9, 1], [1, 6, 9]), ([1, 10], [1, 10]), ([11, 9], [11]), ([12], [12]), ([13, 12, 12], [12, 13]), ([12], [12]), ([14, 15, 12], [12, 14, 15]), ([12, 16], [12, 16]), ([17, 14], [17]), ([18], [18]), ([18], [18]), ([19, 20, 18], [18, 19, 20]), ([18, 21], [18, 21]), ([22, 18], [22]), ([23], [23]), ([24, 23, 23], [23, 24]), ([23], [23]), ([25, 26, 25, 23], [23, 25, 26]), ([27, 27, 23], [23, 27]), ([23], [23]), ([23], [23]), ([29, 30, 28, 23], [23, 29, 30]), ([28, 31, 23], [23, 28, 31]), ([23, 32], [23, 32]), ([33, 31], [33]), ([34], [34]), ([35, 34], [34, 35]), ([34], [34]), ([36, 37, 34, 34], [34, 36, 37]), ([38, 38, 34], [34, 38]), ([34], [34]), ([40, 34], [34, 40]), ([34], [34]), ([41, 42, 39, 34], [34, 41, 42]), ([39, 43, 34], [34, 39, 43]), ([34, 44], [34, 44]), ([45, 43, 0, 1, 2, 3, 4, 5, 6, 7, 8, 9, 10, 11, 12, 13, 14, 15, 16, 17, 18, 19, 20, 21, 22, 23, 24, 25, 26, 27, 28, 29, 30, 31, 32, 33, 34, 35, 36, 37, 38, 39, 40, 41, 42, 43, 44, 45], [45])])
def reredoslaw06_BudgetTells.B4 : List Nat := [0, 1, 3, 7, 3, 31, 63, 3, 3, 511, 1023, 2047, 4095, 8191, 16383, 8191, 65535, 131071, 262143, 524287, 524287, 2097151, 4194303, 8388607, 16777215, 33554431, 16777215, 134217727, 268435455, 16777215, 16777215, 2147483647, 4294967295, 8589934591, 17179869183, 34359738367, 68719476735, 34359738367, 274877906943, 549755813887, 34359738367, 1133871366143, 34359738367, 8796093022207, 17592186044415, 35184372088831, 70368744177663]
theorem reredoslaw06_BudgetTells.tab4 : rtab .any (opsOf Try.f4 4) = reredoslaw06_BudgetTells.T4 := by kernel_rfl
theorem reredoslaw06_BudgetTells.bits4 : waitsOk reredoslaw06_BudgetTells.T4.2 reredoslaw06_BudgetTells.B4 = true := by kernel_rfl
set_option maxHeartbeats 8000000 in
set_option maxRecDepth 100000 in
theorem reredoslaw06_BudgetTells.calls (k : Nat) (a0_0 : Int) (a0_1 : Int) (a1_0 : Int) (a1_1 : Int) (a2 : Int) (r : Bool) (w : World) (h : reredoslaw06_BudgetTells.f k a0_0 a0_1 a1_0 a1_1 a2 = some r) :
  Calls Try.prog 4 #[.agg #[.int .i64 a0_0, .int .i64 a0_1], .agg #[.int .i64 a1_0, .int .i64 a1_1], .int .i64 a2] w fun e w' => e = .returned (.bool r) ∧ Below w.heap.size w w' := by
 have hu23 := Try.underlying23
 have hu26 := Try.underlying26
 have HB := am (Below.refl w.heap.size w)
 have H : ((reredoslaw06_shown.f).bind fun t164 => ((reredoslaw06_made.f a0_0 a0_1).bind fun bt165 => ((reredoslaw06_made.f a1_0 a1_1).bind fun bt167 => ((budget_Budget_Pay.f bt165.1 bt165.2 bt167.1 bt167.2).bind fun bt169 => ((reredosref06_Pay.f k a0_0 a0_1 a1_0 a1_1).bind fun bt173 => (if t164 = true then ((reredoslaw06_made.f a0_0 a0_1).bind fun bt177 => ((reredoslaw06_made.f a1_0 a1_1).bind fun bt179 => ((budget_Budget_Can.f bt177.1 bt177.2 bt179.1 bt179.2).bind fun t181 => ((reredosref06_Can.f a0_0 a0_1 a1_0 a1_1).bind fun t182 => (if (t181 == t182) = true then ((reredoslaw06_real.f bt169.1 bt169.2.1).bind fun bt183 => (if (bt183.1 == bt173.1 && (bt183.2 == bt173.2.1)) = true then (if bt169.2.2 = bt173.2.2 then ((reredoslaw06_made.f a0_0 a0_1).bind fun bt185 => ((budget_Times.f bt185.1 bt185.2 a2).bind fun bt187 => ((reredoslaw06_real.f bt187.1 bt187.2).bind fun bt189 => ((reredosref06_Times.f k a0_0 a0_1 a2).bind fun bt191 => (if (bt189.1 == bt191.1 && (bt189.2 == bt191.2)) = true then ((budget_New.f a0_0 a2).bind fun bt193 => ((reredoslaw06_real.f bt193.1 bt193.2).bind fun bt195 => ((reredosref06_New.f a0_0 a2).bind fun bt197 => (some (bt195.1 == bt197.1 && (bt195.2 == bt197.2)))))) else (none)))))) else (none)) else (none))) else (none)))))) else (none))))))) = some r := h
 clear h
 replace H := Option.bind_eq_some_iff.mp H
 obtain ⟨t164, A40, H⟩ := H
 replace H : ((reredoslaw06_made.f a0_0 a0_1).bind fun bt165 => ((reredoslaw06_made.f a1_0 a1_1).bind fun bt167 => ((budget_Budget_Pay.f bt165.1 bt165.2 bt167.1 bt167.2).bind fun bt169 => ((reredosref06_Pay.f k a0_0 a0_1 a1_0 a1_1).bind fun bt173 => (if t164 = true then ((reredoslaw06_made.f a0_0 a0_1).bind fun bt177 => ((reredoslaw06_made.f a1_0 a1_1).bind fun bt179 => ((budget_Budget_Can.f bt177.1 bt177.2 bt179.1 bt179.2).bind fun t181 => ((reredosref06_Can.f a0_0 a0_1 a1_0 a1_1).bind fun t182 => (if (t181 == t182) = true then ((reredoslaw06_real.f bt169.1 bt169.2.1).bind fun bt183 => (if (bt183.1 == bt173.1 && (bt183.2 == bt173.2.1)) = true then (if bt169.2.2 = bt173.2.2 then ((reredoslaw06_made.f a0_0 a0_1).bind fun bt185 => ((budget_Times.f bt185.1 bt185.2 a2).bind fun bt187 => ((reredoslaw06_real.f bt187.1 bt187.2).bind fun bt189 => ((reredosref06_Times.f k a0_0 a0_1 a2).bind fun bt191 => (if (bt189.1 == bt191.1 && (bt189.2 == bt191.2)) = true then ((budget_New.f a0_0 a2).bind fun bt193 => ((reredoslaw06_real.f bt193.1 bt193.2).bind fun bt195 => ((reredosref06_New.f a0_0 a2).bind fun bt197 => (some (bt195.1 == bt197.1 && (bt195.2 == bt197.2)))))) else (none)))))) else (none)) else (none))) else (none)))))) else (none)))))) = some r := H
 have A4 := am A40
 clear A40
 replace H := Option.bind_eq_some_iff.mp H
 obtain ⟨⟨t165, t166⟩, A50, H⟩ := H
 replace H : ((reredoslaw06_made.f a1_0 a1_1).bind fun bt167 => ((budget_Budget_Pay.f t165 t166 bt167.1 bt167.2).bind fun bt169 => ((reredosref06_Pay.f k a0_0 a0_1 a1_0 a1_1).bind fun bt173 => (if t164 = true then ((reredoslaw06_made.f a0_0 a0_1).bind fun bt177 => ((reredoslaw06_made.f a1_0 a1_1).bind fun bt179 => ((budget_Budget_Can.f bt177.1 bt177.2 bt179.1 bt179.2).bind fun t181 => ((reredosref06_Can.f a0_0 a0_1 a1_0 a1_1).bind fun t182 => (if (t181 == t182) = true then ((reredoslaw06_real.f bt169.1 bt169.2.1).bind fun bt183 => (if (bt183.1 == bt173.1 && (bt183.2 == bt173.2.1)) = true then (if bt169.2.2 = bt173.2.2 then ((reredoslaw06_made.f a0_0 a0_1).bind fun bt185 => ((budget_Times.f bt185.1 bt185.2 a2).bind fun bt187 => ((reredoslaw06_real.f bt187.1 bt187.2).bind fun bt189 => ((reredosref06_Times.f k a0_0 a0_1 a2).bind fun bt191 => (if (bt189.1 == bt191.1 && (bt189.2 == bt191.2)) = true then ((budget_New.f a0_0 a2).bind fun bt193 => ((reredoslaw06_real.f bt193.1 bt193.2).bind fun bt195 => ((reredosref06_New.f a0_0 a2).bind fun bt197 => (some (bt195.1 == bt197.1 && (bt195.2 == bt197.2)))))) else (none)))))) else (none)) else (none))) else (none)))))) else (none))))) = some r := H
 have A5 := am A50
 clear A50
 replace H := Option.bind_eq_some_iff.mp H
 obtain ⟨⟨t167, t168⟩, A60, H⟩ := H
 replace H : ((budget_Budget_Pay.f t165 t166 t167 t168).bind fun bt169 => ((reredosref06_Pay.f k a0_0 a0_1 a1_0 a1_1).bind fun bt173 => (if t164 = true then ((reredoslaw06_made.f a0_0 a0_1).bind fun bt177 => ((reredoslaw06_made.f a1_0 a1_1).bind fun bt179 => ((budget_Budget_Can.f bt177.1 bt177.2 bt179.1 bt179.2).bind fun t181 => ((reredosref06_Can.f a0_0 a0_1 a1_0 a1_1).bind fun t182 => (if (t181 == t182) = true then ((reredoslaw06_real.f bt169.1 bt169.2.1).bind fun bt183 => (if (bt183.1 == bt173.1 && (bt183.2 == bt173.2.1)) = true then (if bt169.2.2 = bt173.2.2 then ((reredoslaw06_made.f a0_0 a0_1).bind fun bt185 => ((budget_Times.f bt185.1 bt185.2 a2).bind fun bt187 => ((reredoslaw06_real.f bt187.1 bt187.2).bind fun bt189 => ((reredosref06_Times.f k a0_0 a0_1 a2).bind fun bt191 => (if (bt189.1 == bt191.1 && (bt189.2 == bt191.2)) = true then ((budget_New.f a0_0 a2).bind fun bt193 => ((reredoslaw06_real.f bt193.1 bt193.2).bind fun bt195 => ((reredosref06_New.f a0_0 a2).bind fun bt197 => (some (bt195.1 == bt197.1 && (bt195.2 == bt197.2)))))) else (none)))))) else (none)) else (none))) else (none)))))) else (none)))) = some r := H
 have A6 := am A60
 clear A60
 replace H := Option.bind_eq_some_iff.mp H
 obtain ⟨⟨t169, t170, t171⟩, A70, H⟩ := H
 replace H : ((reredosref06_Pay.f k a0_0 a0_1 a1_0 a1_1).bind fun bt173 => (if t164 = true then ((reredoslaw06_made.f a0_0 a0_1).bind fun bt177 => ((reredoslaw06_made.f a1_0 a1_1).bind fun bt179 => ((budget_Budget_Can.f bt177.1 bt177.2 bt179.1 bt179.2).bind fun t181 => ((reredosref06_Can.f a0_0 a0_1 a1_0 a1_1).bind fun t182 => (if (t181 == t182) = true then ((reredoslaw06_real.f t169 t170).bind fun bt183 => (if (bt183.1 == bt173.1 && (bt183.2 == bt173.2.1)) = true then (if t171 = bt173.2.2 then ((reredoslaw06_made.f a0_0 a0_1).bind fun bt185 => ((budget_Times.f bt185.1 bt185.2 a2).bind fun bt187 => ((reredoslaw06_real.f bt187.1 bt187.2).bind fun bt189 => ((reredosref06_Times.f k a0_0 a0_1 a2).bind fun bt191 => (if (bt189.1 == bt191.1 && (bt189.2 == bt191.2)) = true then ((budget_New.f a0_0 a2).bind fun bt193 => ((reredoslaw06_real.f bt193.1 bt193.2).bind fun bt195 => ((reredosref06_New.f a0_0 a2).bind fun bt197 => (some (bt195.1 == bt197.1 && (bt195.2 == bt197.2)))))) else (none)))))) else (none)) else (none))) else (none)))))) else (none))) = some r := H
 have A7 := am A70
 clear A70
 replace H := Option.bind_eq_some_iff.mp H
 obtain ⟨⟨t173, t174, t175⟩, A80, H⟩ := H
 replace H : (if t164 = true then ((reredoslaw06_made.f a0_0 a0_1).bind fun bt177 => ((reredoslaw06_made.f a1_0 a1_1).bind fun bt179 => ((budget_Budget_Can.f bt177.1 bt177.2 bt179.1 bt179.2).bind fun t181 => ((reredosref06_Can.f a0_0 a0_1 a1_0 a1_1).bind fun t182 => (if (t181 == t182) = true then ((reredoslaw06_real.f t169 t170).bind fun bt183 => (if (bt183.1 == t173 && (bt183.2 == t174)) = true then (if t171 = t175 then ((reredoslaw06_made.f a0_0 a0_1).bind fun bt185 => ((budget_Times.f bt185.1 bt185.2 a2).bind fun bt187 => ((reredoslaw06_real.f bt187.1 bt187.2).bind fun bt189 => ((reredosref06_Times.f k a0_0 a0_1 a2).bind fun bt191 => (if (bt189.1 == bt191.1 && (bt189.2 == bt191.2)) = true then ((budget_New.f a0_0 a2).bind fun bt193 => ((reredoslaw06_real.f bt193.1 bt193.2).bind fun bt195 => ((reredosref06_New.f a0_0 a2).bind fun bt197 => (some (bt195.1 == bt197.1 && (bt195.2 == bt197.2)))))) else (none)))))) else (none)) else (none))) else (none)))))) else (none)) = some r := H
 have A8 := am A80
 clear A80
 by_cases c9 : t164 = true
 ·subst c9
  have H1 : ((reredoslaw06_made.f a0_0 a0_1).bind fun bt177 => ((reredoslaw06_made.f a1_0 a1_1).bind fun bt179 => ((budget_Budget_Can.f bt177.1 bt177.2 bt179.1 bt179.2).bind fun t181 => ((reredosref06_Can.f a0_0 a0_1 a1_0 a1_1).bind fun t182 => (if (t181 == t182) = true then ((reredoslaw06_real.f t169 t170).bind fun bt183 => (if (bt183.1 == t173 && (bt183.2 == t174)) = true then (if t171 = t175 then ((reredoslaw06_made.f a0_0 a0_1).bind fun bt185 => ((budget_Times.f bt185.1 bt185.2 a2).bind fun bt187 => ((reredoslaw06_real.f bt187.1 bt187.2).bind fun bt189 => ((reredosref06_Times.f k a0_0 a0_1 a2).bind fun bt191 => (if (bt189.1 == bt191.1 && (bt189.2 == bt191.2)) = true then ((budget_New.f a0_0 a2).bind fun bt193 => ((reredoslaw06_real.f bt193.1 bt193.2).bind fun bt195 => ((reredosref06_New.f a0_0 a2).bind fun bt197 => (some (bt195.1 == bt197.1 && (bt195.2 == bt197.2)))))) else (none)))))) else (none)) else (none))) else (none)))))) = some r := by rw [if_pos rfl] at H; exact H
  clear H
  have H := H1
  clear H1
  replace H := Option.bind_eq_some_iff.mp H
  obtain ⟨⟨t177, t178⟩, A100, H⟩ := H
  replace H : ((reredoslaw06_made.f a1_0 a1_1).bind fun bt179 => ((budget_Budget_Can.f t177 t178 bt179.1 bt179.2).bind fun t181 => ((reredosref06_Can.f a0_0 a0_1 a1_0 a1_1).bind fun t182 => (if (t181 == t182) = true then ((reredoslaw06_real.f t169 t170).bind fun bt183 => (if (bt183.1 == t173 && (bt183.2 == t174)) = true then (if t171 = t175 then ((reredoslaw06_made.f a0_0 a0_1).bind fun bt185 => ((budget_Times.f bt185.1 bt185.2 a2).bind fun bt187 => ((reredoslaw06_real.f bt187.1 bt187.2).bind fun bt189 => ((reredosref06_Times.f k a0_0 a0_1 a2).bind fun bt191 => (if (bt189.1 == bt191.1 && (bt189.2 == bt191.2)) = true then ((budget_New.f a0_0 a2).bind fun bt193 => ((reredoslaw06_real.f bt193.1 bt193.2).bind fun bt195 => ((reredosref06_New.f a0_0 a2).bind fun bt197 => (some (bt195.1 == bt197.1 && (bt195.2 == bt197.2)))))) else (none)))))) else (none)) else (none))) else (none))))) = some r := H
  have A10 := am A100
  clear A100
  replace H := Option.bind_eq_some_iff.mp H
  obtain ⟨⟨t179, t180⟩, A110, H⟩ := H
  replace H : ((budget_Budget_Can.f t177 t178 t179 t180).bind fun t181 => ((reredosref06_Can.f a0_0 a0_1 a1_0 a1_1).bind fun t182 => (if (t181 == t182) = true then ((reredoslaw06_real.f t169 t170).bind fun bt183 => (if (bt183.1 == t173 && (bt183.2 == t174)) = true then (if t171 = t175 then ((reredoslaw06_made.f a0_0 a0_1).bind fun bt185 => ((budget_Times.f bt185.1 bt185.2 a2).bind fun bt187 => ((reredoslaw06_real.f bt187.1 bt187.2).bind fun bt189 => ((reredosref06_Times.f k a0_0 a0_1 a2).bind fun bt191 => (if (bt189.1 == bt191.1 && (bt189.2 == bt191.2)) = true then ((budget_New.f a0_0 a2).bind fun bt193 => ((reredoslaw06_real.f bt193.1 bt193.2).bind fun bt195 => ((reredosref06_New.f a0_0 a2).bind fun bt197 => (some (bt195.1 == bt197.1 && (bt195.2 == bt197.2)))))) else (none)))))) else (none)) else (none))) else (none)))) = some r := H
  have A11 := am A110
  clear A110
  replace H := Option.bind_eq_some_iff.mp H
  obtain ⟨t181, A120, H⟩ := H
  replace H : ((reredosref06_Can.f a0_0 a0_1 a1_0 a1_1).bind fun t182 => (if (t181 == t182) = true then ((reredoslaw06_real.f t169 t170).bind fun bt183 => (if (bt183.1 == t173 && (bt183.2 == t174)) = true then (if t171 = t175 then ((reredoslaw06_made.f a0_0 a0_1).bind fun bt185 => ((budget_Times.f bt185.1 bt185.2 a2).bind fun bt187 => ((reredoslaw06_real.f bt187.1 bt187.2).bind fun bt189 => ((reredosref06_Times.f k a0_0 a0_1 a2).bind fun bt191 => (if (bt189.1 == bt191.1 && (bt189.2 == bt191.2)) = true then ((budget_New.f a0_0 a2).bind fun bt193 => ((reredoslaw06_real.f bt193.1 bt193.2).bind fun bt195 => ((reredosref06_New.f a0_0 a2).bind fun bt197 => (some (bt195.1 == bt197.1 && (bt195.2 == bt197.2)))))) else (none)))))) else (none)) else (none))) else (none))) = some r := H
  have A12 := am A120
  clear A120
  replace H := Option.bind_eq_some_iff.mp H
  obtain ⟨t182, A130, H⟩ := H
  replace H : (if (t181 == t182) = true then ((reredoslaw06_real.f t169 t170).bind fun bt183 => (if (bt183.1 == t173 && (bt183.2 == t174)) = true then (if t171 = t175 then ((reredoslaw06_made.f a0_0 a0_1).bind fun bt185 => ((budget_Times.f bt185.1 bt185.2 a2).bind fun bt187 => ((reredoslaw06_real.f bt187.1 bt187.2).bind fun bt189 => ((reredosref06_Times.f k a0_0 a0_1 a2).bind fun bt191 => (if (bt189.1 == bt191.1 && (bt189.2 == bt191.2)) = true then ((budget_New.f a0_0 a2).bind fun bt193 => ((reredoslaw06_real.f bt193.1 bt193.2).bind fun bt195 => ((reredosref06_New.f a0_0 a2).bind fun bt197 => (some (bt195.1 == bt197.1 && (bt195.2 == bt197.2)))))) else (none)))))) else (none)) else (none))) else (none)) = some r := H
  have A13 := am A130
  clear A130
  by_cases c14 : (t181 == t182) = true
  ·rw [if_pos c14] at H
   have c14b0 : (t181 == t182) = true := c14
   (try (have c14b1 : decide (t181 = t182) = true := by simpa using c14))
   (try (have c14b2 : (t181 == t182) = true := by simpa using c14))
   clear c14
   replace H := Option.bind_eq_some_iff.mp H
   obtain ⟨⟨t183, t184⟩, A150, H⟩ := H
   replace H : (if (t183 == t173 && (t184 == t174)) = true then (if t171 = t175 then ((reredoslaw06_made.f a0_0 a0_1).bind fun bt185 => ((budget_Times.f bt185.1 bt185.2 a2).bind fun bt187 => ((reredoslaw06_real.f bt187.1 bt187.2).bind fun bt189 => ((reredosref06_Times.f k a0_0 a0_1 a2).bind fun bt191 => (if (bt189.1 == bt191.1 && (bt189.2 == bt191.2)) = true then ((budget_New.f a0_0 a2).bind fun bt193 => ((reredoslaw06_real.f bt193.1 bt193.2).bind fun bt195 => ((reredosref06_New.f a0_0 a2).bind fun bt197 => (some (bt195.1 == bt197.1 && (bt195.2 == bt197.2)))))) else (none)))))) else (none)) else (none)) = some r := H
   have A15 := am A150
   clear A150
   by_cases c16 : (t183 == t173 && (t184 == t174)) = true
   ·rw [if_pos c16] at H
    have c16b0 : (t183 == t173 && (t184 == t174)) = true := c16
    (try (have c16b1 : decide (t183 = t173 && (t184 == t174)) = true := by simpa using c16))
    (try (have c16b2 : (t183 == t173 && (t184 == t174)) = true := by simpa using c16))
    clear c16
    by_cases c17 : t171 = t175
    ·rw [if_pos c17] at H
     have c17b0 : (t171 == t175) = true := beq_iff_eq.mpr c17
     have c17b1 : (t171 != t175) = false := bne_eq_false_iff_eq.mpr c17
     clear c17
     replace H := Option.bind_eq_some_iff.mp H
     obtain ⟨⟨t185, t186⟩, A180, H⟩ := H
     replace H : ((budget_Times.f t185 t186 a2).bind fun bt187 => ((reredoslaw06_real.f bt187.1 bt187.2).bind fun bt189 => ((reredosref06_Times.f k a0_0 a0_1 a2).bind fun bt191 => (if (bt189.1 == bt191.1 && (bt189.2 == bt191.2)) = true then ((budget_New.f a0_0 a2).bind fun bt193 => ((reredoslaw06_real.f bt193.1 bt193.2).bind fun bt195 => ((reredosref06_New.f a0_0 a2).bind fun bt197 => (some (bt195.1 == bt197.1 && (bt195.2 == bt197.2)))))) else (none))))) = some r := H
     have A18 := am A180
     clear A180
     replace H := Option.bind_eq_some_iff.mp H
     obtain ⟨⟨t187, t188⟩, A190, H⟩ := H
     replace H : ((reredoslaw06_real.f t187 t188).bind fun bt189 => ((reredosref06_Times.f k a0_0 a0_1 a2).bind fun bt191 => (if (bt189.1 == bt191.1 && (bt189.2 == bt191.2)) = true then ((budget_New.f a0_0 a2).bind fun bt193 => ((reredoslaw06_real.f bt193.1 bt193.2).bind fun bt195 => ((reredosref06_New.f a0_0 a2).bind fun bt197 => (some (bt195.1 == bt197.1 && (bt195.2 == bt197.2)))))) else (none)))) = some r := H
     have A19 := am A190
     clear A190
     replace H := Option.bind_eq_some_iff.mp H
     obtain ⟨⟨t189, t190⟩, A200, H⟩ := H
     replace H : ((reredosref06_Times.f k a0_0 a0_1 a2).bind fun bt191 => (if (t189 == bt191.1 && (t190 == bt191.2)) = true then ((budget_New.f a0_0 a2).bind fun bt193 => ((reredoslaw06_real.f bt193.1 bt193.2).bind fun bt195 => ((reredosref06_New.f a0_0 a2).bind fun bt197 => (some (bt195.1 == bt197.1 && (bt195.2 == bt197.2)))))) else (none))) = some r := H
     have A20 := am A200
     clear A200
     replace H := Option.bind_eq_some_iff.mp H
     obtain ⟨⟨t191, t192⟩, A210, H⟩ := H
     replace H : (if (t189 == t191 && (t190 == t192)) = true then ((budget_New.f a0_0 a2).bind fun bt193 => ((reredoslaw06_real.f bt193.1 bt193.2).bind fun bt195 => ((reredosref06_New.f a0_0 a2).bind fun bt197 => (some (bt195.1 == bt197.1 && (bt195.2 == bt197.2)))))) else (none)) = some r := H
     have A21 := am A210
     clear A210
     by_cases c22 : (t189 == t191 && (t190 == t192)) = true
     ·rw [if_pos c22] at H
      have c22b0 : (t189 == t191 && (t190 == t192)) = true := c22
      (try (have c22b1 : decide (t189 = t191 && (t190 == t192)) = true := by simpa using c22))
      (try (have c22b2 : (t189 == t191 && (t190 == t192)) = true := by simpa using c22))
      clear c22
      replace H := Option.bind_eq_some_iff.mp H
      obtain ⟨⟨t193, t194⟩, A230, H⟩ := H
      replace H : ((reredoslaw06_real.f t193 t194).bind fun bt195 => ((reredosref06_New.f a0_0 a2).bind fun bt197 => (some (bt195.1 == bt197.1 && (bt195.2 == bt197.2))))) = some r := H
      have A23 := am A230
      clear A230
      replace H := Option.bind_eq_some_iff.mp H
      obtain ⟨⟨t195, t196⟩, A240, H⟩ := H
      replace H : ((reredosref06_New.f a0_0 a2).bind fun bt197 => (some (t195 == bt197.1 && (t196 == bt197.2)))) = some r := H
      have A24 := am A240
      clear A240
      replace H := Option.bind_eq_some_iff.mp H
      obtain ⟨⟨t197, t198⟩, A250, H⟩ := H
      replace H : (some (t195 == t197 && (t196 == t198))) = some r := H
      have A25 := am A250
      clear A250
      obtain rfl := Option.some.inj H
      go_enter Try.func4, Try.ntmps4
      try go_wp2_with (first | ((with_reducible refine gate_dst (N := 3) rfl ?_); refine box_event ?hg (N := 3) ?hd (cs := #[.int .i64 a0_0, .int .i64 a0_1]) (t := 23) ?hr ?_; (case hd => rfl); (case hg => rfl); (case hr => first | (go_simp; done) | (go_simp; rfl)); intro gb162 hg w26 hbox hb; have n0_ := am (below_step (by repeat (first | (with_reducible first | exact HB.out | apply lA | apply lN | apply lD) | exact HB.out)) hb); have n1_ := am (hbox); have n2_ := am ((by rw [hg]; exact (below_size (by repeat (first | (with_reducible first | exact HB.out | apply lA | apply lN | apply lD) | exact HB.out))) : w.heap.size ≤ gb162)); have n3_ := n2_; clear HB; have HB := n0_; have BK162 := n1_; have GW162 := n2_; have GE162 := n3_; clear n0_ n1_ n2_ n3_; clear hb hbox hg) | ((with_reducible refine gate_dst (N := 4) rfl ?_); refine box_event ?hg (N := 4) ?hd (cs := #[.int .i64 a1_0, .int .i64 a1_1]) (t := 23) ?hr ?_; (case hd => rfl); (case hg => rfl); (case hr => first | (go_simp; done) | (go_simp; rfl)); intro gb163 hg w27 hbox hb; have n0_ := am (bB (g := gb162) (o := .cells #[.int .i64 a0_0, .int .i64 a0_1] 23 (0, 0)) (by (with_reducible repeat (first | refine bN ?_ _ | refine bD ?_ | refine bA ?_ _)); exact BK162.out) hb); have n1_ := am (below_step (by repeat (first | (with_reducible first | exact HB.out | apply lA | apply lN | apply lD | refine below_set ?_ GE162.out) | exact HB.out)) hb); have n2_ := am (hbox); have n3_ := am ((by rw [hg]; exact (below_size (by repeat (first | (with_reducible first | exact HB.out | apply lA | apply lN | apply lD | refine below_set ?_ GE162.out) | exact HB.out))) : w.heap.size ≤ gb163)); have n4_ := n3_; have n5_ := am ((by rw [hg]; exact Nat.ne_of_lt (blk_lt (g := gb162) (o := .cells #[.int .i64 a0_0, .int .i64 a0_1] 23 (0, 0)) (by (with_reducible repeat (first | refine bN ?_ _ | refine bD ?_ | refine bA ?_ _)); exact BK162.out)) : gb162 ≠ gb163)); have n6_ := am ((by rw [hg]; exact Nat.ne_of_gt (blk_lt (g := gb162) (o := .cells #[.int .i64 a0_0, .int .i64 a0_1] 23 (0, 0)) (by (with_reducible repeat (first | refine bN ?_ _ | refine bD ?_ | refine bA ?_ _)); exact BK162.out)) : gb163 ≠ gb162)); clear BK162; clear HB; have BK162 := n0_; have HB := n1_; have BK163 := n2_; have GW163 := n3_; have GE163 := n4_; have NB162_163 := n5_; have NB163_162 := n6_; clear n0_ n1_ n2_ n3_ n4_ n5_ n6_; clear hb hbox hg) | ((with_reducible refine gate_callee (f := 12) rfl ?_); refine goesL_ (some 12) rfl rfl Try.func12 (by kernel_rfl) rfl #[] rfl (by (try simp only [List.map_toArray, List.map_cons, List.map_nil]); first | done | rfl | (simp only [List.length_drop, List.length_take]; rfl)) ?_; (with_reducible refine (reredoslaw06_shown.calls  true _ A4.out).mono ?_); rintro e w28 ⟨rfl, hb⟩; refine ⟨_, rfl, ?_⟩; have n0_ := am (bB (g := gb162) (o := .cells #[.int .i64 a0_0, .int .i64 a0_1] 23 (0, 0)) (by (with_reducible repeat (first | refine bN ?_ _ | refine bD ?_ | refine bA ?_ _)); exact BK162.out) hb); have n1_ := am (bB (g := gb163) (o := .cells #[.int .i64 a1_0, .int .i64 a1_1] 23 (0, 0)) (by (with_reducible repeat (first | refine bN ?_ _ | refine bD ?_ | refine bA ?_ _)); exact BK163.out) hb); have n2_ := am (below_step (by repeat (first | (with_reducible first | exact HB.out | apply lA | apply lN | apply lD | refine below_set ?_ GE162.out | refine below_set ?_ GE163.out) | exact HB.out)) hb); clear BK162; clear BK163; clear HB; have BK162 := n0_; have BK163 := n1_; have HB := n2_; clear n0_ n1_ n2_; (try clear hb); (try clear hb2); (try clear hk); (try clear hi)))
      have n0_ := am (bD BK162.out)
      have n1_ := am (bD BK163.out)
      have n2_ := am (lD HB.out)
      clear BK162
      clear BK163
      clear HB
      have BK162 := n0_
      have BK163 := n1_
      have HB := n2_
      clear n0_ n1_ n2_
      refine start_ (n := 11) (S := fun w' => w'.cell? ⟨gb162, 0, none⟩ = some (.int .i64 a0_0) ∧ w'.cell? ⟨gb162, 1, none⟩ = some (.int .i64 a0_1) ∧ w'.cell? ⟨gb163, 0, none⟩ = some (.int .i64 a1_0) ∧ w'.cell? ⟨gb163, 1, none⟩ = some (.int .i64 a1_1)) (ds := []) #[false, false, false, false, false, false, false, false, false, false, false] (by kernel_rfl) rfl rfl ⟨(blk_cell BK162.out 0).trans rfl, (blk_cell BK162.out 1).trans rfl, (blk_cell BK163.out 0).trans rfl, (blk_cell BK163.out 1).trans rfl⟩ (fun hHeld => ?_); refine with_tabW reredoslaw06_BudgetTells.tab2 reredoslaw06_BudgetTells.bits2 (fun HT_ HW_ => ?_)
      generalize w28.drew = w29 at BK162 BK163 HB hHeld ⊢
      refine take_ (i := 0) (N := some 14) (v := ?_) (a' := ?_) #[true, false, false, false, false, false, false, false, false, false, false] rfl rfl (take_ofW HT_.out HW_.out (by kernel_rfl)) (fun _ _ _ h => h) (Or.inl ⟨by rfl, ?_⟩) hHeld ?_ ?_
      rotate_left
      ·rintro w' ⟨s0, s1, s2, s3⟩
       go_simp
       with_reducible rfl
      rotate_left
      ·simp only [Act.put, zT, z0, zS, i64_w, i32_w]
       rfl
      refine take_ (i := 2) (N := some 16) (v := ?_) (a' := ?_) #[true, false, true, false, false, false, false, false, false, false, false] rfl rfl (take_ofW HT_.out HW_.out (by kernel_rfl)) (fun _ _ _ h => h) (Or.inl ⟨by rfl, ?_⟩) hHeld ?_ ?_
      rotate_left
      ·rintro w' ⟨s0, s1, s2, s3⟩
       go_simp
       with_reducible rfl
      rotate_left
      ·simp only [Act.put, zT, z0, zS, i64_w, i32_w]
       rfl
      refine join_ (σ := Nat) 2 #[true, true, true, true, true, true, true, true, true, false, false] (fun s_ => [(15, .agg #[.int .i64 t165, .int .i64 t166]), (17, .agg #[.int .i64 t167, .int .i64 t168]), (18, .tuple #[.agg #[.int .i64 t169, .int .i64 t170], .int .i64 t171]), (8, .pointer (some ⟨s_, 0, none⟩)), (13, .tuple #[.agg #[.int .i64 t169, .int .i64 t170], .int .i64 t171]), (19, .agg #[.int .i64 t169, .int .i64 t170]), (20, .int .i64 t171)]) (fun s_ w' => (w'.cell? ⟨gb162, 0, none⟩ = some (.int .i64 a0_0) ∧ w'.cell? ⟨gb162, 1, none⟩ = some (.int .i64 a0_1) ∧ w'.cell? ⟨gb163, 0, none⟩ = some (.int .i64 a1_0) ∧ w'.cell? ⟨gb163, 1, none⟩ = some (.int .i64 a1_1)) ∧ (w'.heap[gb162]? = some (.cells #[.int .i64 a0_0, .int .i64 a0_1] 23 (0, 0))) ∧ (w'.heap[gb163]? = some (.cells #[.int .i64 a1_0, .int .i64 a1_1] 23 (0, 0))) ∧ (w'.heap[s_]? = some (.cells #[.int .i64 0, .int .i64 0] 26 (0, 0))) ∧ (w.heap.size ≤ s_) ∧ (w.heap.size ≤ s_) ∧ (gb162 ≠ s_) ∧ (s_ ≠ gb162) ∧ (gb163 ≠ s_) ∧ (s_ ≠ gb163) ∧ (Below w.heap.size w w')) ?_ ?_
      rotate_left
      ·intro hCont
       refine two_ (i := 1) (j := 8) (Ni := some 15) (Nj := some 8) #[true, true, true, false, false, false, false, false, false, false, false] #[true, false, true, false, false, false, false, false, true, false, false] rfl rfl rfl rfl (two_of HT_.out (by kernel_rfl)) (by decide) (by decide) (fun K hK => ?_) (fun K hK => ?_)
       ·skip
        refine goes_ Try.func15 (by kernel_rfl) rfl #[.agg #[.int .i64 a0_0, .int .i64 a0_1]] (by rfl) rfl rfl (by (try simp only [List.map_toArray, List.map_cons, List.map_nil]); first | done | rfl | (simp only [List.length_drop, List.length_take]; rfl)) ?_
        with_reducible refine (reredoslaw06_made.calls a0_0 a0_1 t165 t166 _ A5.out).mono ?_
        rintro e w30 ⟨rfl, hb⟩
        refine ⟨_, rfl, ?_⟩
        have n0_ := am (bB (g := gb162) (o := .cells #[.int .i64 a0_0, .int .i64 a0_1] 23 (0, 0)) (by (with_reducible repeat (first | refine bN ?_ _ | refine bD ?_ | refine bA ?_ _)); exact BK162.out) hb)
        have n1_ := am (bB (g := gb163) (o := .cells #[.int .i64 a1_0, .int .i64 a1_1] 23 (0, 0)) (by (with_reducible repeat (first | refine bN ?_ _ | refine bD ?_ | refine bA ?_ _)); exact BK163.out) hb)
        have n2_ := am (below_step (by repeat (first | (with_reducible first | exact HB.out | apply lA | apply lN | apply lD | refine below_set ?_ GE162.out | refine below_set ?_ GE163.out) | exact HB.out)) hb)
        clear BK162
        clear BK163
        clear HB
        have BK162 := n0_
        have BK163 := n1_
        have HB := n2_
        clear n0_ n1_ n2_
        (try clear hb)
        (try clear hb2)
        (try clear hk)
        (try clear hi)
        refine hK.out _ _ ⟨(blk_cell BK162.out 0).trans rfl, (blk_cell BK162.out 1).trans rfl, (blk_cell BK163.out 0).trans rfl, (blk_cell BK163.out 1).trans rfl⟩ (fun hHeld => ?_)
        clear hK K
        refine norm_ (a' := ?_) ?_ ?_
        rotate_left
        ·show Act.put _ (some 15) _ = _
         simp only [Act.put, zT, z0, zS, i64_w, i32_w]
         rfl
        refine two_ (i := 3) (j := 8) (Ni := some 17) (Nj := some 8) #[true, true, true, true, false, false, false, false, false, false, false] #[true, true, true, false, false, false, false, false, true, false, false] rfl rfl rfl rfl (two_of HT_.out (by kernel_rfl)) (by decide) (by decide) (fun K hK => ?_) (fun K hK => ?_)
        ·skip
         refine goes_ Try.func15 (by kernel_rfl) rfl #[.agg #[.int .i64 a1_0, .int .i64 a1_1]] (by rfl) rfl rfl (by (try simp only [List.map_toArray, List.map_cons, List.map_nil]); first | done | rfl | (simp only [List.length_drop, List.length_take]; rfl)) ?_
         with_reducible refine (reredoslaw06_made.calls a1_0 a1_1 t167 t168 _ A6.out).mono ?_
         rintro e w31 ⟨rfl, hb⟩
         refine ⟨_, rfl, ?_⟩
         have n0_ := am (bB (g := gb162) (o := .cells #[.int .i64 a0_0, .int .i64 a0_1] 23 (0, 0)) (by (with_reducible repeat (first | refine bN ?_ _ | refine bD ?_ | refine bA ?_ _)); exact BK162.out) hb)
         have n1_ := am (bB (g := gb163) (o := .cells #[.int .i64 a1_0, .int .i64 a1_1] 23 (0, 0)) (by (with_reducible repeat (first | refine bN ?_ _ | refine bD ?_ | refine bA ?_ _)); exact BK163.out) hb)
         have n2_ := am (below_step (by repeat (first | (with_reducible first | exact HB.out | apply lA | apply lN | apply lD | refine below_set ?_ GE162.out | refine below_set ?_ GE163.out) | exact HB.out)) hb)
         clear BK162
         clear BK163
         clear HB
         have BK162 := n0_
         have BK163 := n1_
         have HB := n2_
         clear n0_ n1_ n2_
         (try clear hb)
         (try clear hb2)
         (try clear hk)
         (try clear hi)
         refine hK.out _ _ ⟨(blk_cell BK162.out 0).trans rfl, (blk_cell BK162.out 1).trans rfl, (blk_cell BK163.out 0).trans rfl, (blk_cell BK163.out 1).trans rfl⟩ (fun hHeld => ?_)
         clear hK K
         refine norm_ (a' := ?_) ?_ ?_
         rotate_left
         ·show Act.put _ (some 17) _ = _
          simp only [Act.put, zT, z0, zS, i64_w, i32_w]
          rfl
         refine two_ (i := 4) (j := 8) (Ni := some 18) (Nj := some 8) #[true, true, true, true, true, false, false, false, false, false, false] #[true, true, true, true, false, false, false, false, true, false, false] rfl rfl rfl rfl (two_of HT_.out (by kernel_rfl)) (by decide) (by decide) (fun K hK => ?_) (fun K hK => ?_)
         ·skip
          refine goes_ Try.func14 (by kernel_rfl) rfl #[.agg #[.int .i64 t165, .int .i64 t166], .agg #[.int .i64 t167, .int .i64 t168]] (by rfl) rfl rfl (by (try simp only [List.map_toArray, List.map_cons, List.map_nil]); first | done | rfl | (simp only [List.length_drop, List.length_take]; rfl)) ?_
          with_reducible refine (budget_Budget_Pay.calls t165 t166 t167 t168 t169 t170 t171 _ A7.out).mono ?_
          rintro e w32 ⟨rfl, hb⟩
          refine ⟨_, rfl, ?_⟩
          have n0_ := am (bB (g := gb162) (o := .cells #[.int .i64 a0_0, .int .i64 a0_1] 23 (0, 0)) (by (with_reducible repeat (first | refine bN ?_ _ | refine bD ?_ | refine bA ?_ _)); exact BK162.out) hb)
          have n1_ := am (bB (g := gb163) (o := .cells #[.int .i64 a1_0, .int .i64 a1_1] 23 (0, 0)) (by (with_reducible repeat (first | refine bN ?_ _ | refine bD ?_ | refine bA ?_ _)); exact BK163.out) hb)
          have n2_ := am (below_step (by repeat (first | (with_reducible first | exact HB.out | apply lA | apply lN | apply lD | refine below_set ?_ GE162.out | refine below_set ?_ GE163.out) | exact HB.out)) hb)
          clear BK162
          clear BK163
          clear HB
          have BK162 := n0_
          have BK163 := n1_
          have HB := n2_
          clear n0_ n1_ n2_
          (try clear hb)
          (try clear hb2)
          (try clear hk)
          (try clear hi)
          refine hK.out _ _ ⟨(blk_cell BK162.out 0).trans rfl, (blk_cell BK162.out 1).trans rfl, (blk_cell BK163.out 0).trans rfl, (blk_cell BK163.out 1).trans rfl⟩ (fun hHeld => ?_)
          clear hK K
          refine norm_ (a' := ?_) ?_ ?_
          rotate_left
          ·show Act.put _ (some 18) _ = _
           simp only [Act.put, zT, z0, zS, i64_w, i32_w]
           rfl
          refine pure_ (i := 5) (N := some 13) (v := ?_) (a' := ?_) #[true, true, true, true, true, true, false, false, false, false, false] rfl rfl (any_of HT_.out (by kernel_rfl)) (fun _ _ _ h => h) (Or.inl ⟨by rfl, ?_⟩) ?_ ?_
          rotate_left
          ·intro w'
           go_simp
           with_reducible rfl
          rotate_left
          ·simp only [Act.put, zT, z0, zS, i64_w, i32_w]
           rfl
          refine pure_ (i := 6) (N := some 19) (v := ?_) (a' := ?_) #[true, true, true, true, true, true, true, false, false, false, false] rfl rfl (any_of HT_.out (by kernel_rfl)) (fun _ _ _ h => h) (Or.inl ⟨by rfl, ?_⟩) ?_ ?_
          rotate_left
          ·intro w'
           go_simp
           with_reducible rfl
          rotate_left
          ·simp only [Act.put, zT, z0, zS, i64_w, i32_w]
           rfl
          refine pure_ (i := 7) (N := some 20) (v := ?_) (a' := ?_) #[true, true, true, true, true, true, true, true, false, false, false] rfl rfl (any_of HT_.out (by kernel_rfl)) (fun _ _ _ h => h) (Or.inl ⟨by rfl, ?_⟩) ?_ ?_
          rotate_left
          ·intro w'
           go_simp
           with_reducible rfl
          rotate_left
          ·simp only [Act.put, zT, z0, zS, i64_w, i32_w]
           rfl
          refine one_ (i := 8) (N := some 8) #[true, true, true, true, true, true, true, true, true, false, false] rfl rfl (one_of HT_.out (by kernel_rfl)) (by decide) (fun K hK => ?_)
          refine box_step ?hg (N := 8) ?hd (cs := #[.int .i64 0, .int .i64 0]) (t := 26) ?hr ?_; (case hd => rfl); (case hg => rfl); (case hr => first | (go_simp; done) | (go_simp; rfl))
          intro gb172 hg w33 hbox hb
          have n0_ := am (bB (g := gb162) (o := .cells #[.int .i64 a0_0, .int .i64 a0_1] 23 (0, 0)) (by (with_reducible repeat (first | refine bN ?_ _ | refine bD ?_ | refine bA ?_ _)); exact BK162.out) hb)
          have n1_ := am (bB (g := gb163) (o := .cells #[.int .i64 a1_0, .int .i64 a1_1] 23 (0, 0)) (by (with_reducible repeat (first | refine bN ?_ _ | refine bD ?_ | refine bA ?_ _)); exact BK163.out) hb)
          have n2_ := am (below_step (by repeat (first | (with_reducible first | exact HB.out | apply lA | apply lN | apply lD | refine below_set ?_ GE162.out | refine below_set ?_ GE163.out) | exact HB.out)) hb)
          have n3_ := am (hbox)
          have n4_ := am ((by rw [hg]; exact (below_size (by repeat (first | (with_reducible first | exact HB.out | apply lA | apply lN | apply lD | refine below_set ?_ GE162.out | refine below_set ?_ GE163.out) | exact HB.out))) : w.heap.size ≤ gb172))
          have n5_ := n4_
          have n6_ := am ((by rw [hg]; exact Nat.ne_of_lt (blk_lt (g := gb162) (o := .cells #[.int .i64 a0_0, .int .i64 a0_1] 23 (0, 0)) (by (with_reducible repeat (first | refine bN ?_ _ | refine bD ?_ | refine bA ?_ _)); exact BK162.out)) : gb162 ≠ gb172))
          have n7_ := am ((by rw [hg]; exact Nat.ne_of_gt (blk_lt (g := gb162) (o := .cells #[.int .i64 a0_0, .int .i64 a0_1] 23 (0, 0)) (by (with_reducible repeat (first | refine bN ?_ _ | refine bD ?_ | refine bA ?_ _)); exact BK162.out)) : gb172 ≠ gb162))
          have n8_ := am ((by rw [hg]; exact Nat.ne_of_lt (blk_lt (g := gb163) (o := .cells #[.int .i64 a1_0, .int .i64 a1_1] 23 (0, 0)) (by (with_reducible repeat (first | refine bN ?_ _ | refine bD ?_ | refine bA ?_ _)); exact BK163.out)) : gb163 ≠ gb172))
          have n9_ := am ((by rw [hg]; exact Nat.ne_of_gt (blk_lt (g := gb163) (o := .cells #[.int .i64 a1_0, .int .i64 a1_1] 23 (0, 0)) (by (with_reducible repeat (first | refine bN ?_ _ | refine bD ?_ | refine bA ?_ _)); exact BK163.out)) : gb172 ≠ gb163))
          clear BK162
          clear BK163
          clear HB
          have BK162 := n0_
          have BK163 := n1_
          have HB := n2_
          have BK172 := n3_
          have GW172 := n4_
          have GE172 := n5_
          have NB162_172 := n6_
          have NB172_162 := n7_
          have NB163_172 := n8_
          have NB172_163 := n9_
          clear n0_ n1_ n2_ n3_ n4_ n5_ n6_ n7_ n8_ n9_
          clear hb hbox hg
          refine hK.out _ _ ⟨(blk_cell BK162.out 0).trans rfl, (blk_cell BK162.out 1).trans rfl, (blk_cell BK163.out 0).trans rfl, (blk_cell BK163.out 1).trans rfl⟩ (fun hHeld => ?_)
          clear hK K
          refine norm_ (a' := ?_) ?_ ?_
          rotate_left
          ·show Act.put _ (some 8) _ = _
           simp only [Act.put, zT, z0, zS, i64_w, i32_w]
           rfl
          exact norm_ (by simp only [putAll, Act.put, zT, z0, zS]) (hCont (gb172) _ ⟨hHeld, (by (with_reducible repeat (first | refine bN ?_ _ | refine bD ?_ | refine bA ?_ _)); exact BK162.out), (by (with_reducible repeat (first | refine bN ?_ _ | refine bD ?_ | refine bA ?_ _)); exact BK163.out), (by (with_reducible repeat (first | refine bN ?_ _ | refine bD ?_ | refine bA ?_ _)); exact BK172.out), GW172.out, GE172.out, NB162_172.out, NB172_162.out, NB163_172.out, NB172_163.out, (by repeat (first | (with_reducible first | exact HB.out | apply lA | apply lN | apply lD | refine below_set ?_ GE162.out | refine below_set ?_ GE163.out | refine below_set ?_ GE172.out) | exact HB.out))⟩)
         ·skip
          refine box_step ?hg (N := 8) ?hd (cs := #[.int .i64 0, .int .i64 0]) (t := 26) ?hr ?_; (case hd => rfl); (case hg => rfl); (case hr => first | (go_simp; done) | (go_simp; rfl))
          intro gb172 hg w32 hbox hb
          have n0_ := am (bB (g := gb162) (o := .cells #[.int .i64 a0_0, .int .i64 a0_1] 23 (0, 0)) (by (with_reducible repeat (first | refine bN ?_ _ | refine bD ?_ | refine bA ?_ _)); exact BK162.out) hb)
          have n1_ := am (bB (g := gb163) (o := .cells #[.int .i64 a1_0, .int .i64 a1_1] 23 (0, 0)) (by (with_reducible repeat (first | refine bN ?_ _ | refine bD ?_ | refine bA ?_ _)); exact BK163.out) hb)
          have n2_ := am (below_step (by repeat (first | (with_reducible first | exact HB.out | apply lA | apply lN | apply lD | refine below_set ?_ GE162.out | refine below_set ?_ GE163.out) | exact HB.out)) hb)
          have n3_ := am (hbox)
          have n4_ := am ((by rw [hg]; exact (below_size (by repeat (first | (with_reducible first | exact HB.out | apply lA | apply lN | apply lD | refine below_set ?_ GE162.out | refine below_set ?_ GE163.out) | exact HB.out))) : w.heap.size ≤ gb172))
          have n5_ := n4_
          have n6_ := am ((by rw [hg]; exact Nat.ne_of_lt (blk_lt (g := gb162) (o := .cells #[.int .i64 a0_0, .int .i64 a0_1] 23 (0, 0)) (by (with_reducible repeat (first | refine bN ?_ _ | refine bD ?_ | refine bA ?_ _)); exact BK162.out)) : gb162 ≠ gb172))
          have n7_ := am ((by rw [hg]; exact Nat.ne_of_gt (blk_lt (g := gb162) (o := .cells #[.int .i64 a0_0, .int .i64 a0_1] 23 (0, 0)) (by (with_reducible repeat (first | refine bN ?_ _ | refine bD ?_ | refine bA ?_ _)); exact BK162.out)) : gb172 ≠ gb162))
          have n8_ := am ((by rw [hg]; exact Nat.ne_of_lt (blk_lt (g := gb163) (o := .cells #[.int .i64 a1_0, .int .i64 a1_1] 23 (0, 0)) (by (with_reducible repeat (first | refine bN ?_ _ | refine bD ?_ | refine bA ?_ _)); exact BK163.out)) : gb163 ≠ gb172))
          have n9_ := am ((by rw [hg]; exact Nat.ne_of_gt (blk_lt (g := gb163) (o := .cells #[.int .i64 a1_0, .int .i64 a1_1] 23 (0, 0)) (by (with_reducible repeat (first | refine bN ?_ _ | refine bD ?_ | refine bA ?_ _)); exact BK163.out)) : gb172 ≠ gb163))
          clear BK162
          clear BK163
          clear HB
          have BK162 := n0_
          have BK163 := n1_
          have HB := n2_
          have BK172 := n3_
          have GW172 := n4_
          have GE172 := n5_
          have NB162_172 := n6_
          have NB172_162 := n7_
          have NB163_172 := n8_
          have NB172_163 := n9_
          clear n0_ n1_ n2_ n3_ n4_ n5_ n6_ n7_ n8_ n9_
          clear hb hbox hg
          refine hK.out _ _ ⟨(blk_cell BK162.out 0).trans rfl, (blk_cell BK162.out 1).trans rfl, (blk_cell BK163.out 0).trans rfl, (blk_cell BK163.out 1).trans rfl⟩ (fun hHeld => ?_)
          clear hK K
          refine norm_ (a' := ?_) ?_ ?_
          rotate_left
          ·show Act.put _ (some 8) _ = _
           simp only [Act.put, zT, z0, zS, i64_w, i32_w]
           rfl
          refine one_ (i := 4) (N := some 18) #[true, true, true, true, true, false, false, false, true, false, false] rfl rfl (one_of HT_.out (by kernel_rfl)) (by decide) (fun K hK => ?_)
          refine goes_ Try.func14 (by kernel_rfl) rfl #[.agg #[.int .i64 t165, .int .i64 t166], .agg #[.int .i64 t167, .int .i64 t168]] (by rfl) rfl rfl (by (try simp only [List.map_toArray, List.map_cons, List.map_nil]); first | done | rfl | (simp only [List.length_drop, List.length_take]; rfl)) ?_
          with_reducible refine (budget_Budget_Pay.calls t165 t166 t167 t168 t169 t170 t171 _ A7.out).mono ?_
          rintro e w33 ⟨rfl, hb⟩
          refine ⟨_, rfl, ?_⟩
          have n0_ := am (bB (g := gb162) (o := .cells #[.int .i64 a0_0, .int .i64 a0_1] 23 (0, 0)) (by (with_reducible repeat (first | refine bN ?_ _ | refine bD ?_ | refine bA ?_ _)); exact BK162.out) hb)
          have n1_ := am (bB (g := gb163) (o := .cells #[.int .i64 a1_0, .int .i64 a1_1] 23 (0, 0)) (by (with_reducible repeat (first | refine bN ?_ _ | refine bD ?_ | refine bA ?_ _)); exact BK163.out) hb)
          have n2_ := am (bB (g := gb172) (o := .cells #[.int .i64 0, .int .i64 0] 26 (0, 0)) (by (with_reducible repeat (first | refine bN ?_ _ | refine bD ?_ | refine bA ?_ _)); exact BK172.out) hb)
          have n3_ := am (below_step (by repeat (first | (with_reducible first | exact HB.out | apply lA | apply lN | apply lD | refine below_set ?_ GE162.out | refine below_set ?_ GE163.out | refine below_set ?_ GE172.out) | exact HB.out)) hb)
          clear BK162
          clear BK163
          clear BK172
          clear HB
          have BK162 := n0_
          have BK163 := n1_
          have BK172 := n2_
          have HB := n3_
          clear n0_ n1_ n2_ n3_
          (try clear hb)
          (try clear hb2)
          (try clear hk)
          (try clear hi)
          refine hK.out _ _ ⟨(blk_cell BK162.out 0).trans rfl, (blk_cell BK162.out 1).trans rfl, (blk_cell BK163.out 0).trans rfl, (blk_cell BK163.out 1).trans rfl⟩ (fun hHeld => ?_)
          clear hK K
          refine norm_ (a' := ?_) ?_ ?_
          rotate_left
          ·show Act.put _ (some 18) _ = _
           simp only [Act.put, zT, z0, zS, i64_w, i32_w]
           rfl
          refine pure_ (i := 5) (N := some 13) (v := ?_) (a' := ?_) #[true, true, true, true, true, true, false, false, true, false, false] rfl rfl (any_of HT_.out (by kernel_rfl)) (fun _ _ _ h => h) (Or.inl ⟨by rfl, ?_⟩) ?_ ?_
          rotate_left
          ·intro w'
           go_simp
           with_reducible rfl
          rotate_left
          ·simp only [Act.put, zT, z0, zS, i64_w, i32_w]
           rfl
          refine pure_ (i := 6) (N := some 19) (v := ?_) (a' := ?_) #[true, true, true, true, true, true, true, false, true, false, false] rfl rfl (any_of HT_.out (by kernel_rfl)) (fun _ _ _ h => h) (Or.inl ⟨by rfl, ?_⟩) ?_ ?_
          rotate_left
          ·intro w'
           go_simp
           with_reducible rfl
          rotate_left
          ·simp only [Act.put, zT, z0, zS, i64_w, i32_w]
           rfl
          refine pure_ (i := 7) (N := some 20) (v := ?_) (a' := ?_) #[true, true, true, true, true, true, true, true, true, false, false] rfl rfl (any_of HT_.out (by kernel_rfl)) (fun _ _ _ h => h) (Or.inl ⟨by rfl, ?_⟩) ?_ ?_
          rotate_left
          ·intro w'
           go_simp
           with_reducible rfl
          rotate_left
          ·simp only [Act.put, zT, z0, zS, i64_w, i32_w]
           rfl
          exact norm_ (by simp only [putAll, Act.put, zT, z0, zS]) (hCont (gb172) _ ⟨hHeld, (by (with_reducible repeat (first | refine bN ?_ _ | refine bD ?_ | refine bA ?_ _)); exact BK162.out), (by (with_reducible repeat (first | refine bN ?_ _ | refine bD ?_ | refine bA ?_ _)); exact BK163.out), (by (with_reducible repeat (first | refine bN ?_ _ | refine bD ?_ | refine bA ?_ _)); exact BK172.out), GW172.out, GE172.out, NB162_172.out, NB172_162.out, NB163_172.out, NB172_163.out, (by repeat (first | (with_reducible first | exact HB.out | apply lA | apply lN | apply lD | refine below_set ?_ GE162.out | refine below_set ?_ GE163.out | refine below_set ?_ GE172.out) | exact HB.out))⟩)
        ·skip
         refine box_step ?hg (N := 8) ?hd (cs := #[.int .i64 0, .int .i64 0]) (t := 26) ?hr ?_; (case hd => rfl); (case hg => rfl); (case hr => first | (go_simp; done) | (go_simp; rfl))
         intro gb172 hg w31 hbox hb
         have n0_ := am (bB (g := gb162) (o := .cells #[.int .i64 a0_0, .int .i64 a0_1] 23 (0, 0)) (by (with_reducible repeat (first | refine bN ?_ _ | refine bD ?_ | refine bA ?_ _)); exact BK162.out) hb)
         have n1_ := am (bB (g := gb163) (o := .cells #[.int .i64 a1_0, .int .i64 a1_1] 23 (0, 0)) (by (with_reducible repeat (first | refine bN ?_ _ | refine bD ?_ | refine bA ?_ _)); exact BK163.out) hb)
         have n2_ := am (below_step (by repeat (first | (with_reducible first | exact HB.out | apply lA | apply lN | apply lD | refine below_set ?_ GE162.out | refine below_set ?_ GE163.out) | exact HB.out)) hb)
         have n3_ := am (hbox)
         have n4_ := am ((by rw [hg]; exact (below_size (by repeat (first | (with_reducible first | exact HB.out | apply lA | apply lN | apply lD | refine below_set ?_ GE162.out | refine below_set ?_ GE163.out) | exact HB.out))) : w.heap.size ≤ gb172))
         have n5_ := n4_
         have n6_ := am ((by rw [hg]; exact Nat.ne_of_lt (blk_lt (g := gb162) (o := .cells #[.int .i64 a0_0, .int .i64 a0_1] 23 (0, 0)) (by (with_reducible repeat (first | refine bN ?_ _ | refine bD ?_ | refine bA ?_ _)); exact BK162.out)) : gb162 ≠ gb172))
         have n7_ := am ((by rw [hg]; exact Nat.ne_of_gt (blk_lt (g := gb162) (o := .cells #[.int .i64 a0_0, .int .i64 a0_1] 23 (0, 0)) (by (with_reducible repeat (first | refine bN ?_ _ | refine bD ?_ | refine bA ?_ _)); exact BK162.out)) : gb172 ≠ gb162))
         have n8_ := am ((by rw [hg]; exact Nat.ne_of_lt (blk_lt (g := gb163) (o := .cells #[.int .i64 a1_0, .int .i64 a1_1] 23 (0, 0)) (by (with_reducible repeat (first | refine bN ?_ _ | refine bD ?_ | refine bA ?_ _)); exact BK163.out)) : gb163 ≠ gb172))
         have n9_ := am ((by rw [hg]; exact Nat.ne_of_gt (blk_lt (g := gb163) (o := .cells #[.int .i64 a1_0, .int .i64 a1_1] 23 (0, 0)) (by (with_reducible repeat (first | refine bN ?_ _ | refine bD ?_ | refine bA ?_ _)); exact BK163.out)) : gb172 ≠ gb163))
         clear BK162
         clear BK163
         clear HB
         have BK162 := n0_
         have BK163 := n1_
         have HB := n2_
         have BK172 := n3_
         have GW172 := n4_
         have GE172 := n5_
         have NB162_172 := n6_
         have NB172_162 := n7_
         have NB163_172 := n8_
         have NB172_163 := n9_
         clear n0_ n1_ n2_ n3_ n4_ n5_ n6_ n7_ n8_ n9_
         clear hb hbox hg
         refine hK.out _ _ ⟨(blk_cell BK162.out 0).trans rfl, (blk_cell BK162.out 1).trans rfl, (blk_cell BK163.out 0).trans rfl, (blk_cell BK163.out 1).trans rfl⟩ (fun hHeld => ?_)
         clear hK K
         refine norm_ (a' := ?_) ?_ ?_
         rotate_left
         ·show Act.put _ (some 8) _ = _
          simp only [Act.put, zT, z0, zS, i64_w, i32_w]
          rfl
         refine one_ (i := 3) (N := some 17) #[true, true, true, true, false, false, false, false, true, false, false] rfl rfl (one_of HT_.out (by kernel_rfl)) (by decide) (fun K hK => ?_)
         refine goes_ Try.func15 (by kernel_rfl) rfl #[.agg #[.int .i64 a1_0, .int .i64 a1_1]] (by rfl) rfl rfl (by (try simp only [List.map_toArray, List.map_cons, List.map_nil]); first | done | rfl | (simp only [List.length_drop, List.length_take]; rfl)) ?_
         with_reducible refine (reredoslaw06_made.calls a1_0 a1_1 t167 t168 _ A6.out).mono ?_
         rintro e w32 ⟨rfl, hb⟩
         refine ⟨_, rfl, ?_⟩
         have n0_ := am (bB (g := gb162) (o := .cells #[.int .i64 a0_0, .int .i64 a0_1] 23 (0, 0)) (by (with_reducible repeat (first | refine bN ?_ _ | refine bD ?_ | refine bA ?_ _)); exact BK162.out) hb)
         have n1_ := am (bB (g := gb163) (o := .cells #[.int .i64 a1_0, .int .i64 a1_1] 23 (0, 0)) (by (with_reducible repeat (first | refine bN ?_ _ | refine bD ?_ | refine bA ?_ _)); exact BK163.out) hb)
         have n2_ := am (bB (g := gb172) (o := .cells #[.int .i64 0, .int .i64 0] 26 (0, 0)) (by (with_reducible repeat (first | refine bN ?_ _ | refine bD ?_ | refine bA ?_ _)); exact BK172.out) hb)
         have n3_ := am (below_step (by repeat (first | (with_reducible first | exact HB.out | apply lA | apply lN | apply lD | refine below_set ?_ GE162.out | refine below_set ?_ GE163.out | refine below_set ?_ GE172.out) | exact HB.out)) hb)
         clear BK162
         clear BK163
         clear BK172
         clear HB
         have BK162 := n0_
         have BK163 := n1_
         have BK172 := n2_
         have HB := n3_
         clear n0_ n1_ n2_ n3_
         (try clear hb)
         (try clear hb2)
         (try clear hk)
         (try clear hi)
         refine hK.out _ _ ⟨(blk_cell BK162.out 0).trans rfl, (blk_cell BK162.out 1).trans rfl, (blk_cell BK163.out 0).trans rfl, (blk_cell BK163.out 1).trans rfl⟩ (fun hHeld => ?_)
         clear hK K
         refine norm_ (a' := ?_) ?_ ?_
         rotate_left
         ·show Act.put _ (some 17) _ = _
          simp only [Act.put, zT, z0, zS, i64_w, i32_w]
          rfl
         refine one_ (i := 4) (N := some 18) #[true, true, true, true, true, false, false, false, true, false, false] rfl rfl (one_of HT_.out (by kernel_rfl)) (by decide) (fun K hK => ?_)
         refine goes_ Try.func14 (by kernel_rfl) rfl #[.agg #[.int .i64 t165, .int .i64 t166], .agg #[.int .i64 t167, .int .i64 t168]] (by rfl) rfl rfl (by (try simp only [List.map_toArray, List.map_cons, List.map_nil]); first | done | rfl | (simp only [List.length_drop, List.length_take]; rfl)) ?_
         with_reducible refine (budget_Budget_Pay.calls t165 t166 t167 t168 t169 t170 t171 _ A7.out).mono ?_
         rintro e w33 ⟨rfl, hb⟩
         refine ⟨_, rfl, ?_⟩
         have n0_ := am (bB (g := gb162) (o := .cells #[.int .i64 a0_0, .int .i64 a0_1] 23 (0, 0)) (by (with_reducible repeat (first | refine bN ?_ _ | refine bD ?_ | refine bA ?_ _)); exact BK162.out) hb)
         have n1_ := am (bB (g := gb163) (o := .cells #[.int .i64 a1_0, .int .i64 a1_1] 23 (0, 0)) (by (with_reducible repeat (first | refine bN ?_ _ | refine bD ?_ | refine bA ?_ _)); exact BK163.out) hb)
         have n2_ := am (bB (g := gb172) (o := .cells #[.int .i64 0, .int .i64 0] 26 (0, 0)) (by (with_reducible repeat (first | refine bN ?_ _ | refine bD ?_ | refine bA ?_ _)); exact BK172.out) hb)
         have n3_ := am (below_step (by repeat (first | (with_reducible first | exact HB.out | apply lA | apply lN | apply lD | refine below_set ?_ GE162.out | refine below_set ?_ GE163.out | refine below_set ?_ GE172.out) | exact HB.out)) hb)
         clear BK162
         clear BK163
         clear BK172
         clear HB
         have BK162 := n0_
         have BK163 := n1_
         have BK172 := n2_
         have HB := n3_
         clear n0_ n1_ n2_ n3_
         (try clear hb)
         (try clear hb2)
         (try clear hk)
         (try clear hi)
         refine hK.out _ _ ⟨(blk_cell BK162.out 0).trans rfl, (blk_cell BK162.out 1).trans rfl, (blk_cell BK163.out 0).trans rfl, (blk_cell BK163.out 1).trans rfl⟩ (fun hHeld => ?_)
         clear hK K
         refine norm_ (a' := ?_) ?_ ?_
         rotate_left
         ·show Act.put _ (some 18) _ = _
          simp only [Act.put, zT, z0, zS, i64_w, i32_w]
          rfl
         refine pure_ (i := 5) (N := some 13) (v := ?_) (a' := ?_) #[true, true, true, true, true, true, false, false, true, false, false] rfl rfl (any_of HT_.out (by kernel_rfl)) (fun _ _ _ h => h) (Or.inl ⟨by rfl, ?_⟩) ?_ ?_
         rotate_left
         ·intro w'
          go_simp
          with_reducible rfl
         rotate_left
         ·simp only [Act.put, zT, z0, zS, i64_w, i32_w]
          rfl
         refine pure_ (i := 6) (N := some 19) (v := ?_) (a' := ?_) #[true, true, true, true, true, true, true, false, true, false, false] rfl rfl (any_of HT_.out (by kernel_rfl)) (fun _ _ _ h => h) (Or.inl ⟨by rfl, ?_⟩) ?_ ?_
         rotate_left
         ·intro w'
          go_simp
          with_reducible rfl
         rotate_left
         ·simp only [Act.put, zT, z0, zS, i64_w, i32_w]
          rfl
         refine pure_ (i := 7) (N := some 20) (v := ?_) (a' := ?_) #[true, true, true, true, true, true, true, true, true, false, false] rfl rfl (any_of HT_.out (by kernel_rfl)) (fun _ _ _ h => h) (Or.inl ⟨by rfl, ?_⟩) ?_ ?_
         rotate_left
         ·intro w'
          go_simp
          with_reducible rfl
         rotate_left
         ·simp only [Act.put, zT, z0, zS, i64_w, i32_w]
          rfl
         exact norm_ (by simp only [putAll, Act.put, zT, z0, zS]) (hCont (gb172) _ ⟨hHeld, (by (with_reducible repeat (first | refine bN ?_ _ | refine bD ?_ | refine bA ?_ _)); exact BK162.out), (by (with_reducible repeat (first | refine bN ?_ _ | refine bD ?_ | refine bA ?_ _)); exact BK163.out), (by (with_reducible repeat (first | refine bN ?_ _ | refine bD ?_ | refine bA ?_ _)); exact BK172.out), GW172.out, GE172.out, NB162_172.out, NB172_162.out, NB163_172.out, NB172_163.out, (by repeat (first | (with_reducible first | exact HB.out | apply lA | apply lN | apply lD | refine below_set ?_ GE162.out | refine below_set ?_ GE163.out | refine below_set ?_ GE172.out) | exact HB.out))⟩)
       ·skip
        refine box_step ?hg (N := 8) ?hd (cs := #[.int .i64 0, .int .i64 0]) (t := 26) ?hr ?_; (case hd => rfl); (case hg => rfl); (case hr => first | (go_simp; done) | (go_simp; rfl))
        intro gb172 hg w30 hbox hb
        have n0_ := am (bB (g := gb162) (o := .cells #[.int .i64 a0_0, .int .i64 a0_1] 23 (0, 0)) (by (with_reducible repeat (first | refine bN ?_ _ | refine bD ?_ | refine bA ?_ _)); exact BK162.out) hb)
        have n1_ := am (bB (g := gb163) (o := .cells #[.int .i64 a1_0, .int .i64 a1_1] 23 (0, 0)) (by (with_reducible repeat (first | refine bN ?_ _ | refine bD ?_ | refine bA ?_ _)); exact BK163.out) hb)
        have n2_ := am (below_step (by repeat (first | (with_reducible first | exact HB.out | apply lA | apply lN | apply lD | refine below_set ?_ GE162.out | refine below_set ?_ GE163.out) | exact HB.out)) hb)
        have n3_ := am (hbox)
        have n4_ := am ((by rw [hg]; exact (below_size (by repeat (first | (with_reducible first | exact HB.out | apply lA | apply lN | apply lD | refine below_set ?_ GE162.out | refine below_set ?_ GE163.out) | exact HB.out))) : w.heap.size ≤ gb172))
        have n5_ := n4_
        have n6_ := am ((by rw [hg]; exact Nat.ne_of_lt (blk_lt (g := gb162) (o := .cells #[.int .i64 a0_0, .int .i64 a0_1] 23 (0, 0)) (by (with_reducible repeat (first | refine bN ?_ _ | refine bD ?_ | refine bA ?_ _)); exact BK162.out)) : gb162 ≠ gb172))
        have n7_ := am ((by rw [hg]; exact Nat.ne_of_gt (blk_lt (g := gb162) (o := .cells #[.int .i64 a0_0, .int .i64 a0_1] 23 (0, 0)) (by (with_reducible repeat (first | refine bN ?_ _ | refine bD ?_ | refine bA ?_ _)); exact BK162.out)) : gb172 ≠ gb162))
        have n8_ := am ((by rw [hg]; exact Nat.ne_of_lt (blk_lt (g := gb163) (o := .cells #[.int .i64 a1_0, .int .i64 a1_1] 23 (0, 0)) (by (with_reducible repeat (first | refine bN ?_ _ | refine bD ?_ | refine bA ?_ _)); exact BK163.out)) : gb163 ≠ gb172))
        have n9_ := am ((by rw [hg]; exact Nat.ne_of_gt (blk_lt (g := gb163) (o := .cells #[.int .i64 a1_0, .int .i64 a1_1] 23 (0, 0)) (by (with_reducible repeat (first | refine bN ?_ _ | refine bD ?_ | refine bA ?_ _)); exact BK163.out)) : gb172 ≠ gb163))
        clear BK162
        clear BK163
        clear HB
        have BK162 := n0_
        have BK163 := n1_
        have HB := n2_
        have BK172 := n3_
        have GW172 := n4_
        have GE172 := n5_
        have NB162_172 := n6_
        have NB172_162 := n7_
        have NB163_172 := n8_
        have NB172_163 := n9_
        clear n0_ n1_ n2_ n3_ n4_ n5_ n6_ n7_ n8_ n9_
        clear hb hbox hg
        refine hK.out _ _ ⟨(blk_cell BK162.out 0).trans rfl, (blk_cell BK162.out 1).trans rfl, (blk_cell BK163.out 0).trans rfl, (blk_cell BK163.out 1).trans rfl⟩ (fun hHeld => ?_)
        clear hK K
        refine norm_ (a' := ?_) ?_ ?_
        rotate_left
        ·show Act.put _ (some 8) _ = _
         simp only [Act.put, zT, z0, zS, i64_w, i32_w]
         rfl
        refine one_ (i := 1) (N := some 15) #[true, true, true, false, false, false, false, false, true, false, false] rfl rfl (one_of HT_.out (by kernel_rfl)) (by decide) (fun K hK => ?_)
        refine goes_ Try.func15 (by kernel_rfl) rfl #[.agg #[.int .i64 a0_0, .int .i64 a0_1]] (by rfl) rfl rfl (by (try simp only [List.map_toArray, List.map_cons, List.map_nil]); first | done | rfl | (simp only [List.length_drop, List.length_take]; rfl)) ?_
        with_reducible refine (reredoslaw06_made.calls a0_0 a0_1 t165 t166 _ A5.out).mono ?_
        rintro e w31 ⟨rfl, hb⟩
        refine ⟨_, rfl, ?_⟩
        have n0_ := am (bB (g := gb162) (o := .cells #[.int .i64 a0_0, .int .i64 a0_1] 23 (0, 0)) (by (with_reducible repeat (first | refine bN ?_ _ | refine bD ?_ | refine bA ?_ _)); exact BK162.out) hb)
        have n1_ := am (bB (g := gb163) (o := .cells #[.int .i64 a1_0, .int .i64 a1_1] 23 (0, 0)) (by (with_reducible repeat (first | refine bN ?_ _ | refine bD ?_ | refine bA ?_ _)); exact BK163.out) hb)
        have n2_ := am (bB (g := gb172) (o := .cells #[.int .i64 0, .int .i64 0] 26 (0, 0)) (by (with_reducible repeat (first | refine bN ?_ _ | refine bD ?_ | refine bA ?_ _)); exact BK172.out) hb)
        have n3_ := am (below_step (by repeat (first | (with_reducible first | exact HB.out | apply lA | apply lN | apply lD | refine below_set ?_ GE162.out | refine below_set ?_ GE163.out | refine below_set ?_ GE172.out) | exact HB.out)) hb)
        clear BK162
        clear BK163
        clear BK172
        clear HB
        have BK162 := n0_
        have BK163 := n1_
        have BK172 := n2_
        have HB := n3_
        clear n0_ n1_ n2_ n3_
        (try clear hb)
        (try clear hb2)
        (try clear hk)
        (try clear hi)
        refine hK.out _ _ ⟨(blk_cell BK162.out 0).trans rfl, (blk_cell BK162.out 1).trans rfl, (blk_cell BK163.out 0).trans rfl, (blk_cell BK163.out 1).trans rfl⟩ (fun hHeld => ?_)
        clear hK K
        refine norm_ (a' := ?_) ?_ ?_
        rotate_left
        ·show Act.put _ (some 15) _ = _
         simp only [Act.put, zT, z0, zS, i64_w, i32_w]
         rfl
        refine one_ (i := 3) (N := some 17) #[true, true, true, true, false, false, false, false, true, false, false] rfl rfl (one_of HT_.out (by kernel_rfl)) (by decide) (fun K hK => ?_)
        refine goes_ Try.func15 (by kernel_rfl) rfl #[.agg #[.int .i64 a1_0, .int .i64 a1_1]] (by rfl) rfl rfl (by (try simp only [List.map_toArray, List.map_cons, List.map_nil]); first | done | rfl | (simp only [List.length_drop, List.length_take]; rfl)) ?_
        with_reducible refine (reredoslaw06_made.calls a1_0 a1_1 t167 t168 _ A6.out).mono ?_
        rintro e w32 ⟨rfl, hb⟩
        refine ⟨_, rfl, ?_⟩
        have n0_ := am (bB (g := gb162) (o := .cells #[.int .i64 a0_0, .int .i64 a0_1] 23 (0, 0)) (by (with_reducible repeat (first | refine bN ?_ _ | refine bD ?_ | refine bA ?_ _)); exact BK162.out) hb)
        have n1_ := am (bB (g := gb163) (o := .cells #[.int .i64 a1_0, .int .i64 a1_1] 23 (0, 0)) (by (with_reducible repeat (first | refine bN ?_ _ | refine bD ?_ | refine bA ?_ _)); exact BK163.out) hb)
        have n2_ := am (bB (g := gb172) (o := .cells #[.int .i64 0, .int .i64 0] 26 (0, 0)) (by (with_reducible repeat (first | refine bN ?_ _ | refine bD ?_ | refine bA ?_ _)); exact BK172.out) hb)
        have n3_ := am (below_step (by repeat (first | (with_reducible first | exact HB.out | apply lA | apply lN | apply lD | refine below_set ?_ GE162.out | refine below_set ?_ GE163.out | refine below_set ?_ GE172.out) | exact HB.out)) hb)
        clear BK162
        clear BK163
        clear BK172
        clear HB
        have BK162 := n0_
        have BK163 := n1_
        have BK172 := n2_
        have HB := n3_
        clear n0_ n1_ n2_ n3_
        (try clear hb)
        (try clear hb2)
        (try clear hk)
        (try clear hi)
        refine hK.out _ _ ⟨(blk_cell BK162.out 0).trans rfl, (blk_cell BK162.out 1).trans rfl, (blk_cell BK163.out 0).trans rfl, (blk_cell BK163.out 1).trans rfl⟩ (fun hHeld => ?_)
        clear hK K
        refine norm_ (a' := ?_) ?_ ?_
        rotate_left
        ·show Act.put _ (some 17) _ = _
         simp only [Act.put, zT, z0, zS, i64_w, i32_w]
         rfl
        refine one_ (i := 4) (N := some 18) #[true, true, true, true, true, false, false, false, true, false, false] rfl rfl (one_of HT_.out (by kernel_rfl)) (by decide) (fun K hK => ?_)
        refine goes_ Try.func14 (by kernel_rfl) rfl #[.agg #[.int .i64 t165, .int .i64 t166], .agg #[.int .i64 t167, .int .i64 t168]] (by rfl) rfl rfl (by (try simp only [List.map_toArray, List.map_cons, List.map_nil]); first | done | rfl | (simp only [List.length_drop, List.length_take]; rfl)) ?_
        with_reducible refine (budget_Budget_Pay.calls t165 t166 t167 t168 t169 t170 t171 _ A7.out).mono ?_
        rintro e w33 ⟨rfl, hb⟩
        refine ⟨_, rfl, ?_⟩
        have n0_ := am (bB (g := gb162) (o := .cells #[.int .i64 a0_0, .int .i64 a0_1] 23 (0, 0)) (by (with_reducible repeat (first | refine bN ?_ _ | refine bD ?_ | refine bA ?_ _)); exact BK162.out) hb)
        have n1_ := am (bB (g := gb163) (o := .cells #[.int .i64 a1_0, .int .i64 a1_1] 23 (0, 0)) (by (with_reducible repeat (first | refine bN ?_ _ | refine bD ?_ | refine bA ?_ _)); exact BK163.out) hb)
        have n2_ := am (bB (g := gb172) (o := .cells #[.int .i64 0, .int .i64 0] 26 (0, 0)) (by (with_reducible repeat (first | refine bN ?_ _ | refine bD ?_ | refine bA ?_ _)); exact BK172.out) hb)
        have n3_ := am (below_step (by repeat (first | (with_reducible first | exact HB.out | apply lA | apply lN | apply lD | refine below_set ?_ GE162.out | refine below_set ?_ GE163.out | refine below_set ?_ GE172.out) | exact HB.out)) hb)
        clear BK162
        clear BK163
        clear BK172
        clear HB
        have BK162 := n0_
        have BK163 := n1_
        have BK172 := n2_
        have HB := n3_
        clear n0_ n1_ n2_ n3_
        (try clear hb)
        (try clear hb2)
        (try clear hk)
        (try clear hi)
        refine hK.out _ _ ⟨(blk_cell BK162.out 0).trans rfl, (blk_cell BK162.out 1).trans rfl, (blk_cell BK163.out 0).trans rfl, (blk_cell BK163.out 1).trans rfl⟩ (fun hHeld => ?_)
        clear hK K
        refine norm_ (a' := ?_) ?_ ?_
        rotate_left
        ·show Act.put _ (some 18) _ = _
         simp only [Act.put, zT, z0, zS, i64_w, i32_w]
         rfl
        refine pure_ (i := 5) (N := some 13) (v := ?_) (a' := ?_) #[true, true, true, true, true, true, false, false, true, false, false] rfl rfl (any_of HT_.out (by kernel_rfl)) (fun _ _ _ h => h) (Or.inl ⟨by rfl, ?_⟩) ?_ ?_
        rotate_left
        ·intro w'
         go_simp
         with_reducible rfl
        rotate_left
        ·simp only [Act.put, zT, z0, zS, i64_w, i32_w]
         rfl
        refine pure_ (i := 6) (N := some 19) (v := ?_) (a' := ?_) #[true, true, true, true, true, true, true, false, true, false, false] rfl rfl (any_of HT_.out (by kernel_rfl)) (fun _ _ _ h => h) (Or.inl ⟨by rfl, ?_⟩) ?_ ?_
        rotate_left
        ·intro w'
         go_simp
         with_reducible rfl
        rotate_left
        ·simp only [Act.put, zT, z0, zS, i64_w, i32_w]
         rfl
        refine pure_ (i := 7) (N := some 20) (v := ?_) (a' := ?_) #[true, true, true, true, true, true, true, true, true, false, false] rfl rfl (any_of HT_.out (by kernel_rfl)) (fun _ _ _ h => h) (Or.inl ⟨by rfl, ?_⟩) ?_ ?_
        rotate_left
        ·intro w'
         go_simp
         with_reducible rfl
        rotate_left
        ·simp only [Act.put, zT, z0, zS, i64_w, i32_w]
         rfl
        exact norm_ (by simp only [putAll, Act.put, zT, z0, zS]) (hCont (gb172) _ ⟨hHeld, (by (with_reducible repeat (first | refine bN ?_ _ | refine bD ?_ | refine bA ?_ _)); exact BK162.out), (by (with_reducible repeat (first | refine bN ?_ _ | refine bD ?_ | refine bA ?_ _)); exact BK163.out), (by (with_reducible repeat (first | refine bN ?_ _ | refine bD ?_ | refine bA ?_ _)); exact BK172.out), GW172.out, GE172.out, NB162_172.out, NB172_162.out, NB163_172.out, NB172_163.out, (by repeat (first | (with_reducible first | exact HB.out | apply lA | apply lN | apply lD | refine below_set ?_ GE162.out | refine below_set ?_ GE163.out | refine below_set ?_ GE172.out) | exact HB.out))⟩)
      rintro gb172 w34 ⟨hS_, h0_, h1_, h2_, h3_, h4_, h5_, h6_, h7_, h8_, h9_⟩
      have n0_ : Aside0 (w34.heap[gb162]? = some (.cells #[.int .i64 a0_0, .int .i64 a0_1] 23 (0, 0))) := ⟨h0_⟩
      have n1_ : Aside0 (w34.heap[gb163]? = some (.cells #[.int .i64 a1_0, .int .i64 a1_1] 23 (0, 0))) := ⟨h1_⟩
      have n2_ : Aside0 (w34.heap[gb172]? = some (.cells #[.int .i64 0, .int .i64 0] 26 (0, 0))) := ⟨h2_⟩
      have n3_ : Aside0 (w.heap.size ≤ gb172) := ⟨h3_⟩
      have n4_ : Aside0 (w.heap.size ≤ gb172) := ⟨h4_⟩
      have n5_ : Aside0 (gb162 ≠ gb172) := ⟨h5_⟩
      have n6_ : Aside0 (gb172 ≠ gb162) := ⟨h6_⟩
      have n7_ : Aside0 (gb163 ≠ gb172) := ⟨h7_⟩
      have n8_ : Aside0 (gb172 ≠ gb163) := ⟨h8_⟩
      have n9_ : Aside0 (Below w.heap.size w w34) := ⟨h9_⟩
      clear BK162
      clear BK163
      clear HB
      clear h0_ h1_ h2_ h3_ h4_ h5_ h6_ h7_ h8_ h9_
      have BK162 := n0_
      have BK163 := n1_
      have BK172 := n2_
      have GW172 := n3_
      have GE172 := n4_
      have NB162_172 := n5_
      have NB172_162 := n6_
      have NB163_172 := n7_
      have NB172_163 := n8_
      have HB := n9_
      clear n0_ n1_ n2_ n3_ n4_ n5_ n6_ n7_ n8_ n9_
      have hHeld : w34.cell? ⟨gb162, 0, none⟩ = some (.int .i64 a0_0) ∧ w34.cell? ⟨gb162, 1, none⟩ = some (.int .i64 a0_1) ∧ w34.cell? ⟨gb163, 0, none⟩ = some (.int .i64 a1_0) ∧ w34.cell? ⟨gb163, 1, none⟩ = some (.int .i64 a1_1) := hS_
      refine norm_ (a' := ?_) ?_ ?_
      rotate_left
      ·simp only [putAll, Act.put, zT, z0, zS]
       rfl
      refine one_ (i := 9) (N := none) #[true, true, true, true, true, true, true, true, true, true, false] rfl rfl (one_of HT_.out (by kernel_rfl)) (by decide) (fun K hK => ?_)
      have hs35 : w34.cell? ⟨gb172, 0, none⟩ = some (.int .i64 0) := (blk_cell BK172.out 0).trans rfl
      have hfs35 := blk_frozen BK172.out 0
      have hns35_0 := NB162_172.out
      have hns35_1 := NB163_172.out
      have hms35_0 := NB172_162.out
      have hms35_1 := NB172_163.out
      have hs36 : w34.cell? ⟨gb172, 1, none⟩ = some (.int .i64 0) := (blk_cell BK172.out 1).trans rfl
      have hfs36 := blk_frozen BK172.out 1
      have hns36_0 := NB162_172.out
      have hns36_1 := NB163_172.out
      have hms36_0 := NB172_162.out
      have hms36_1 := NB172_163.out
      refine skip_ (w1 := ?_) (by rfl) rfl ?_ ?_
      rotate_left
      ·go_simp
       rfl
      refine hK.out _ _ ⟨((cell_far (p := ⟨gb172, _, none⟩) NB162_172.out _).trans (((cell_far (p := ⟨gb172, _, none⟩) NB162_172.out _).trans (hHeld.1)))), ((cell_far (p := ⟨gb172, _, none⟩) NB162_172.out _).trans (((cell_far (p := ⟨gb172, _, none⟩) NB162_172.out _).trans (hHeld.2.1)))), ((cell_far (p := ⟨gb172, _, none⟩) NB163_172.out _).trans (((cell_far (p := ⟨gb172, _, none⟩) NB163_172.out _).trans (hHeld.2.2.1)))), ((cell_far (p := ⟨gb172, _, none⟩) NB163_172.out _).trans (((cell_far (p := ⟨gb172, _, none⟩) NB163_172.out _).trans (hHeld.2.2.2))))⟩ (fun hHeld => ?_)
      clear hK K
      refine pure_ (i := 10) (N := some 9) (v := ?_) (a' := ?_) #[true, true, true, true, true, true, true, true, true, true, true] rfl rfl (any_of HT_.out (by kernel_rfl)) (fun _ _ _ h => h) (Or.inl ⟨by rfl, ?_⟩) ?_ ?_
      rotate_left
      ·intro w'
       go_simp
       with_reducible rfl
      rotate_left
      ·simp only [Act.put, zT, z0, zS, i64_w, i32_w]
       rfl
      refine done_ (done_of HT_.out (by kernel_rfl)) ?_
      have hnb37 := NB162_163.out
      have hnc37 := NB163_162.out
      have hnb38 := NB162_172.out
      have hnc38 := NB172_162.out
      have hcz39_0 : w34.cell? ⟨gb162, 0, none⟩ = some (.int .i64 a0_0) := (blk_cell BK162.out 0).trans rfl
      have hcz39_1 : w34.cell? ⟨gb162, 1, none⟩ = some (.int .i64 a0_1) := (blk_cell BK162.out 1).trans rfl
      have hfz39_0 := blk_frozen BK162.out 0
      have hfz39_1 := blk_frozen BK162.out 1
      have hnb40 := NB163_172.out
      have hnc40 := NB172_163.out
      have hcz41_0 : w34.cell? ⟨gb163, 0, none⟩ = some (.int .i64 a1_0) := (blk_cell BK163.out 0).trans rfl
      have hcz41_1 : w34.cell? ⟨gb163, 1, none⟩ = some (.int .i64 a1_1) := (blk_cell BK163.out 1).trans rfl
      have hfz41_0 := blk_frozen BK163.out 0
      have hfz41_1 := blk_frozen BK163.out 1
      try go_wp2_with (first | ((with_reducible refine gate_callee (f := 17) rfl ?_); refine goesL_ (some 24) rfl rfl Try.func17 (by kernel_rfl) rfl #[.agg #[.int .i64 a0_0, .int .i64 a0_1], .agg #[.int .i64 a1_0, .int .i64 a1_1]] rfl (by (try simp only [List.map_toArray, List.map_cons, List.map_nil]); first | done | rfl | (simp only [List.length_drop, List.length_take]; rfl)) ?_; (with_reducible refine (reredosref06_Pay.calls k a0_0 a0_1 a1_0 a1_1 t173 t174 t175 _ A8.out).mono ?_); rintro e w42 ⟨rfl, hb⟩; refine ⟨_, rfl, ?_⟩; have n0_ := am (bB (g := gb162) (o := .cells #[.int .i64 a0_0, .int .i64 a0_1] 23 (0, 0)) (by (with_reducible repeat (first | refine bN ?_ _ | refine bD ?_ | refine bA ?_ _)); refine blk_far ?_ NB162_172.out _; (with_reducible repeat (first | refine bN ?_ _ | refine bD ?_ | refine bA ?_ _)); refine blk_far ?_ NB162_172.out _; (with_reducible repeat (first | refine bN ?_ _ | refine bD ?_ | refine bA ?_ _)); exact BK162.out) hb); have n1_ := am (bB (g := gb163) (o := .cells #[.int .i64 a1_0, .int .i64 a1_1] 23 (0, 0)) (by (with_reducible repeat (first | refine bN ?_ _ | refine bD ?_ | refine bA ?_ _)); refine blk_far ?_ NB163_172.out _; (with_reducible repeat (first | refine bN ?_ _ | refine bD ?_ | refine bA ?_ _)); refine blk_far ?_ NB163_172.out _; (with_reducible repeat (first | refine bN ?_ _ | refine bD ?_ | refine bA ?_ _)); exact BK163.out) hb); have n2_ := am (bB (g := gb172) (o := .cells #[.int .i64 t169, .int .i64 t170] 26 (0, 0)) (by (with_reducible repeat (first | refine bN ?_ _ | refine bD ?_ | refine bA ?_ _)); refine blk_put (cs := #[.int .i64 t169, .int .i64 0]) ?_ 1 _ rfl; (with_reducible repeat (first | refine bN ?_ _ | refine bD ?_ | refine bA ?_ _)); refine blk_put (cs := #[.int .i64 0, .int .i64 0]) ?_ 0 _ rfl; (with_reducible repeat (first | refine bN ?_ _ | refine bD ?_ | refine bA ?_ _)); exact BK172.out) hb); have n3_ := am (below_step (by repeat (first | (with_reducible first | exact HB.out | apply lA | apply lN | apply lD | refine below_set ?_ GE162.out | refine below_set ?_ GE163.out | refine below_set ?_ GE172.out) | exact HB.out)) hb); clear BK162; clear BK163; clear BK172; clear HB; have BK162 := n0_; have BK163 := n1_; have BK172 := n2_; have HB := n3_; clear n0_ n1_ n2_ n3_; (try clear hb); (try clear hb2); (try clear hk); (try clear hi)) | ((with_reducible refine gate_dst (N := 10) rfl ?_); refine box_event ?hg (N := 10) ?hd (cs := #[.int .i64 0, .int .i64 0]) (t := 23) ?hr ?_; (case hd => rfl); (case hg => rfl); (case hr => first | (go_simp; done) | (go_simp; rfl)); intro gb176 hg w43 hbox hb; have n0_ := am (bB (g := gb162) (o := .cells #[.int .i64 a0_0, .int .i64 a0_1] 23 (0, 0)) (by (with_reducible repeat (first | refine bN ?_ _ | refine bD ?_ | refine bA ?_ _)); exact BK162.out) hb); have n1_ := am (bB (g := gb163) (o := .cells #[.int .i64 a1_0, .int .i64 a1_1] 23 (0, 0)) (by (with_reducible repeat (first | refine bN ?_ _ | refine bD ?_ | refine bA ?_ _)); exact BK163.out) hb); have n2_ := am (bB (g := gb172) (o := .cells #[.int .i64 t169, .int .i64 t170] 26 (0, 0)) (by (with_reducible repeat (first | refine bN ?_ _ | refine bD ?_ | refine bA ?_ _)); exact BK172.out) hb); have n3_ := am (below_step (by repeat (first | (with_reducible first | exact HB.out | apply lA | apply lN | apply lD | refine below_set ?_ GE162.out | refine below_set ?_ GE163.out | refine below_set ?_ GE172.out) | exact HB.out)) hb); have n4_ := am (hbox); have n5_ := am ((by rw [hg]; exact (below_size (by repeat (first | (with_reducible first | exact HB.out | apply lA | apply lN | apply lD | refine below_set ?_ GE162.out | refine below_set ?_ GE163.out | refine below_set ?_ GE172.out) | exact HB.out))) : w.heap.size ≤ gb176)); have n6_ := n5_; have n7_ := am ((by rw [hg]; exact Nat.ne_of_lt (blk_lt (g := gb162) (o := .cells #[.int .i64 a0_0, .int .i64 a0_1] 23 (0, 0)) (by (with_reducible repeat (first | refine bN ?_ _ | refine bD ?_ | refine bA ?_ _)); exact BK162.out)) : gb162 ≠ gb176)); have n8_ := am ((by rw [hg]; exact Nat.ne_of_gt (blk_lt (g := gb162) (o := .cells #[.int .i64 a0_0, .int .i64 a0_1] 23 (0, 0)) (by (with_reducible repeat (first | refine bN ?_ _ | refine bD ?_ | refine bA ?_ _)); exact BK162.out)) : gb176 ≠ gb162)); have n9_ := am ((by rw [hg]; exact Nat.ne_of_lt (blk_lt (g := gb163) (o := .cells #[.int .i64 a1_0, .int .i64 a1_1] 23 (0, 0)) (by (with_reducible repeat (first | refine bN ?_ _ | refine bD ?_ | refine bA ?_ _)); exact BK163.out)) : gb163 ≠ gb176)); have n10_ := am ((by rw [hg]; exact Nat.ne_of_gt (blk_lt (g := gb163) (o := .cells #[.int .i64 a1_0, .int .i64 a1_1] 23 (0, 0)) (by (with_reducible repeat (first | refine bN ?_ _ | refine bD ?_ | refine bA ?_ _)); exact BK163.out)) : gb176 ≠ gb163)); have n11_ := am ((by rw [hg]; exact Nat.ne_of_lt (blk_lt (g := gb172) (o := .cells #[.int .i64 t169, .int .i64 t170] 26 (0, 0)) (by (with_reducible repeat (first | refine bN ?_ _ | refine bD ?_ | refine bA ?_ _)); exact BK172.out)) : gb172 ≠ gb176)); have n12_ := am ((by rw [hg]; exact Nat.ne_of_gt (blk_lt (g := gb172) (o := .cells #[.int .i64 t169, .int .i64 t170] 26 (0, 0)) (by (with_reducible repeat (first | refine bN ?_ _ | refine bD ?_ | refine bA ?_ _)); exact BK172.out)) : gb176 ≠ gb172)); clear BK162; clear BK163; clear BK172; clear HB; have BK162 := n0_; have BK163 := n1_; have BK172 := n2_; have HB := n3_; have BK176 := n4_; have GW176 := n5_; have GE176 := n6_; have NB162_176 := n7_; have NB176_162 := n8_; have NB163_176 := n9_; have NB176_163 := n10_; have NB172_176 := n11_; have NB176_172 := n12_; clear n0_ n1_ n2_ n3_ n4_ n5_ n6_ n7_ n8_ n9_ n10_ n11_ n12_; clear hb hbox hg; have hnb44 := NB176_162.out; have hnc44 := NB162_176.out; have hnb45 := NB176_163.out; have hnc45 := NB163_176.out; have hnb46 := NB176_172.out; have hnc46 := NB172_176.out; have hcz47_0 : w43.cell? ⟨gb176, 0, none⟩ = some (.int .i64 0) := (blk_cell BK176.out 0).trans rfl; have hcz47_1 : w43.cell? ⟨gb176, 1, none⟩ = some (.int .i64 0) := (blk_cell BK176.out 1).trans rfl; have hfz47_0 := blk_frozen BK176.out 0; have hfz47_1 := blk_frozen BK176.out 1))
      have n0_ : Aside0 (((w43.setCell ⟨gb176, 0, none⟩ (.int .i64 t173)).setCell ⟨gb176, 1, none⟩ (.int .i64 t174)).heap[gb162]? = some (.cells #[.int .i64 a0_0, .int .i64 a0_1] 23 (0, 0))) := ⟨by (with_reducible repeat (first | refine bN ?_ _ | refine bD ?_ | refine bA ?_ _)); refine blk_far ?_ NB162_176.out _; (with_reducible repeat (first | refine bN ?_ _ | refine bD ?_ | refine bA ?_ _)); refine blk_far ?_ NB162_176.out _; (with_reducible repeat (first | refine bN ?_ _ | refine bD ?_ | refine bA ?_ _)); exact BK162.out⟩
      have n1_ : Aside0 (((w43.setCell ⟨gb176, 0, none⟩ (.int .i64 t173)).setCell ⟨gb176, 1, none⟩ (.int .i64 t174)).heap[gb163]? = some (.cells #[.int .i64 a1_0, .int .i64 a1_1] 23 (0, 0))) := ⟨by (with_reducible repeat (first | refine bN ?_ _ | refine bD ?_ | refine bA ?_ _)); refine blk_far ?_ NB163_176.out _; (with_reducible repeat (first | refine bN ?_ _ | refine bD ?_ | refine bA ?_ _)); refine blk_far ?_ NB163_176.out _; (with_reducible repeat (first | refine bN ?_ _ | refine bD ?_ | refine bA ?_ _)); exact BK163.out⟩
      have n2_ : Aside0 (((w43.setCell ⟨gb176, 0, none⟩ (.int .i64 t173)).setCell ⟨gb176, 1, none⟩ (.int .i64 t174)).heap[gb172]? = some (.cells #[.int .i64 t169, .int .i64 t170] 26 (0, 0))) := ⟨by (with_reducible repeat (first | refine bN ?_ _ | refine bD ?_ | refine bA ?_ _)); refine blk_far ?_ NB172_176.out _; (with_reducible repeat (first | refine bN ?_ _ | refine bD ?_ | refine bA ?_ _)); refine blk_far ?_ NB172_176.out _; (with_reducible repeat (first | refine bN ?_ _ | refine bD ?_ | refine bA ?_ _)); exact BK172.out⟩
      have n3_ : Aside0 (((w43.setCell ⟨gb176, 0, none⟩ (.int .i64 t173)).setCell ⟨gb176, 1, none⟩ (.int .i64 t174)).heap[gb176]? = some (.cells #[.int .i64 t173, .int .i64 t174] 23 (0, 0))) := ⟨by (with_reducible repeat (first | refine bN ?_ _ | refine bD ?_ | refine bA ?_ _)); refine blk_put (cs := #[.int .i64 t173, .int .i64 0]) ?_ 1 _ rfl; (with_reducible repeat (first | refine bN ?_ _ | refine bD ?_ | refine bA ?_ _)); refine blk_put (cs := #[.int .i64 0, .int .i64 0]) ?_ 0 _ rfl; (with_reducible repeat (first | refine bN ?_ _ | refine bD ?_ | refine bA ?_ _)); exact BK176.out⟩
      have n4_ : Aside0 (Below w.heap.size w ((w43.setCell ⟨gb176, 0, none⟩ (.int .i64 t173)).setCell ⟨gb176, 1, none⟩ (.int .i64 t174))) := ⟨by repeat (first | (with_reducible first | exact HB.out | apply lA | apply lN | apply lD | refine below_set ?_ GE162.out | refine below_set ?_ GE163.out | refine below_set ?_ GE172.out | refine below_set ?_ GE176.out) | exact HB.out)⟩
      (try clear BK162)
      (try clear BK163)
      (try clear BK172)
      (try clear BK176)
      (try clear HB)
      generalize ((w43.setCell ⟨gb176, 0, none⟩ (.int .i64 t173)).setCell ⟨gb176, 1, none⟩ (.int .i64 t174)) = w48 at n0_ n1_ n2_ n3_ n4_ ⊢
      have BK162 := n0_
      have BK163 := n1_
      have BK172 := n2_
      have BK176 := n3_
      have HB := n4_
      clear n0_ n1_ n2_ n3_ n4_
      have n0_ := am (bD BK162.out)
      have n1_ := am (bD BK163.out)
      have n2_ := am (bD BK172.out)
      have n3_ := am (bD BK176.out)
      have n4_ := am (lD HB.out)
      clear BK162
      clear BK163
      clear BK172
      clear BK176
      clear HB
      have BK162 := n0_
      have BK163 := n1_
      have BK172 := n2_
      have BK176 := n3_
      have HB := n4_
      clear n0_ n1_ n2_ n3_ n4_
      refine start_ (n := 47) (S := fun w' => w'.cell? ⟨gb162, 0, none⟩ = some (.int .i64 a0_0) ∧ w'.cell? ⟨gb162, 1, none⟩ = some (.int .i64 a0_1) ∧ w'.cell? ⟨gb163, 0, none⟩ = some (.int .i64 a1_0) ∧ w'.cell? ⟨gb163, 1, none⟩ = some (.int .i64 a1_1) ∧ w'.cell? ⟨gb172, 0, none⟩ = some (.int .i64 t169) ∧ w'.cell? ⟨gb172, 1, none⟩ = some (.int .i64 t170) ∧ w'.cell? ⟨gb176, 0, none⟩ = some (.int .i64 t173) ∧ w'.cell? ⟨gb176, 1, none⟩ = some (.int .i64 t174)) (ds := []) #[false, false, false, false, false, false, false, false, false, false, false, false, false, false, false, false, false, false, false, false, false, false, false, false, false, false, false, false, false, false, false, false, false, false, false, false, false, false, false, false, false, false, false, false, false, false, false] (by kernel_rfl) rfl rfl ⟨(blk_cell BK162.out 0).trans rfl, (blk_cell BK162.out 1).trans rfl, (blk_cell BK163.out 0).trans rfl, (blk_cell BK163.out 1).trans rfl, (blk_cell BK172.out 0).trans rfl, (blk_cell BK172.out 1).trans rfl, (blk_cell BK176.out 0).trans rfl, (blk_cell BK176.out 1).trans rfl⟩ (fun hHeld => ?_); refine with_tabW reredoslaw06_BudgetTells.tab4 reredoslaw06_BudgetTells.bits4 (fun HT_ HW_ => ?_)
      generalize w48.drew = w49 at BK162 BK163 BK172 BK176 HB hHeld ⊢
      refine pure_ (i := 0) (N := some 27) (v := ?_) (a' := ?_) #[true, false, false, false, false, false, false, false, false, false, false, false, false, false, false, false, false, false, false, false, false, false, false, false, false, false, false, false, false, false, false, false, false, false, false, false, false, false, false, false, false, false, false, false, false, false, false] rfl rfl (any_of HT_.out (by kernel_rfl)) (fun _ _ _ h => h) (Or.inl ⟨by rfl, ?_⟩) ?_ ?_
      rotate_left
      ·intro w'
       go_simp
       with_reducible rfl
      rotate_left
      ·simp only [Act.put, zT, z0, zS, i64_w, i32_w]
       rfl
      refine pure_ (i := 1) (N := some 28) (v := ?_) (a' := ?_) #[true, true, false, false, false, false, false, false, false, false, false, false, false, false, false, false, false, false, false, false, false, false, false, false, false, false, false, false, false, false, false, false, false, false, false, false, false, false, false, false, false, false, false, false, false, false, false] rfl rfl (any_of HT_.out (by kernel_rfl)) (fun _ _ _ h => h) (Or.inl ⟨by rfl, ?_⟩) ?_ ?_
      rotate_left
      ·intro w'
       go_simp
       with_reducible rfl
      rotate_left
      ·simp only [Act.put, zT, z0, zS, i64_w, i32_w]
       rfl
      refine take_ (i := 2) (N := some 29) (v := ?_) (a' := ?_) #[true, true, true, false, false, false, false, false, false, false, false, false, false, false, false, false, false, false, false, false, false, false, false, false, false, false, false, false, false, false, false, false, false, false, false, false, false, false, false, false, false, false, false, false, false, false, false] rfl rfl (take_ofW HT_.out HW_.out (by kernel_rfl)) (fun _ _ _ h => h) (Or.inl ⟨by rfl, ?_⟩) hHeld ?_ ?_
      rotate_left
      ·rintro w' ⟨s0, s1, s2, s3, s4, s5, s6, s7⟩
       go_simp
       with_reducible rfl
      rotate_left
      ·simp only [Act.put, zT, z0, zS, i64_w, i32_w]
       rfl
      refine take_ (i := 4) (N := some 31) (v := ?_) (a' := ?_) #[true, true, true, false, true, false, false, false, false, false, false, false, false, false, false, false, false, false, false, false, false, false, false, false, false, false, false, false, false, false, false, false, false, false, false, false, false, false, false, false, false, false, false, false, false, false, false] rfl rfl (take_ofW HT_.out HW_.out (by kernel_rfl)) (fun _ _ _ h => h) (Or.inl ⟨by rfl, ?_⟩) hHeld ?_ ?_
      rotate_left
      ·rintro w' ⟨s0, s1, s2, s3, s4, s5, s6, s7⟩
       go_simp
       with_reducible rfl
      rotate_left
      ·simp only [Act.put, zT, z0, zS, i64_w, i32_w]
       rfl
      refine take_ (i := 7) (N := some 34) (v := ?_) (a' := ?_) #[true, true, true, false, true, false, false, true, false, false, false, false, false, false, false, false, false, false, false, false, false, false, false, false, false, false, false, false, false, false, false, false, false, false, false, false, false, false, false, false, false, false, false, false, false, false, false] rfl rfl (take_ofW HT_.out HW_.out (by kernel_rfl)) (fun _ _ _ h => h) (Or.inl ⟨by rfl, ?_⟩) hHeld ?_ ?_
      rotate_left
      ·rintro w' ⟨s0, s1, s2, s3, s4, s5, s6, s7⟩
       go_simp
       with_reducible rfl
      rotate_left
      ·simp only [Act.put, zT, z0, zS, i64_w, i32_w]
       rfl
      refine take_ (i := 8) (N := some 35) (v := ?_) (a' := ?_) #[true, true, true, false, true, false, false, true, true, false, false, false, false, false, false, false, false, false, false, false, false, false, false, false, false, false, false, false, false, false, false, false, false, false, false, false, false, false, false, false, false, false, false, false, false, false, false] rfl rfl (take_ofW HT_.out HW_.out (by kernel_rfl)) (fun _ _ _ h => h) (Or.inl ⟨by rfl, ?_⟩) hHeld ?_ ?_
      rotate_left
      ·rintro w' ⟨s0, s1, s2, s3, s4, s5, s6, s7⟩
       go_simp
       with_reducible rfl
      rotate_left
      ·simp only [Act.put, zT, z0, zS, i64_w, i32_w]
       rfl
      refine one_ (i := 3) (N := some 30) #[true, true, true, true, true, false, false, true, true, false, false, false, false, false, false, false, false, false, false, false, false, false, false, false, false, false, false, false, false, false, false, false, false, false, false, false, false, false, false, false, false, false, false, false, false, false, false] rfl rfl (one_of HT_.out (by kernel_rfl)) (by decide) (fun K hK => ?_)
      refine goes_ Try.func15 (by kernel_rfl) rfl #[.agg #[.int .i64 a0_0, .int .i64 a0_1]] (by rfl) rfl rfl (by (try simp only [List.map_toArray, List.map_cons, List.map_nil]); first | done | rfl | (simp only [List.length_drop, List.length_take]; rfl)) ?_
      with_reducible refine (reredoslaw06_made.calls a0_0 a0_1 t177 t178 _ A10.out).mono ?_
      rintro e w50 ⟨rfl, hb⟩
      refine ⟨_, rfl, ?_⟩
      have n0_ := am (bB (g := gb162) (o := .cells #[.int .i64 a0_0, .int .i64 a0_1] 23 (0, 0)) (by (with_reducible repeat (first | refine bN ?_ _ | refine bD ?_ | refine bA ?_ _)); exact BK162.out) hb)
      have n1_ := am (bB (g := gb163) (o := .cells #[.int .i64 a1_0, .int .i64 a1_1] 23 (0, 0)) (by (with_reducible repeat (first | refine bN ?_ _ | refine bD ?_ | refine bA ?_ _)); exact BK163.out) hb)
      have n2_ := am (bB (g := gb172) (o := .cells #[.int .i64 t169, .int .i64 t170] 26 (0, 0)) (by (with_reducible repeat (first | refine bN ?_ _ | refine bD ?_ | refine bA ?_ _)); exact BK172.out) hb)
      have n3_ := am (bB (g := gb176) (o := .cells #[.int .i64 t173, .int .i64 t174] 23 (0, 0)) (by (with_reducible repeat (first | refine bN ?_ _ | refine bD ?_ | refine bA ?_ _)); exact BK176.out) hb)
      have n4_ := am (below_step (by repeat (first | (with_reducible first | exact HB.out | apply lA | apply lN | apply lD | refine below_set ?_ GE162.out | refine below_set ?_ GE163.out | refine below_set ?_ GE172.out | refine below_set ?_ GE176.out) | exact HB.out)) hb)
      clear BK162
      clear BK163
      clear BK172
      clear BK176
      clear HB
      have BK162 := n0_
      have BK163 := n1_
      have BK172 := n2_
      have BK176 := n3_
      have HB := n4_
      clear n0_ n1_ n2_ n3_ n4_
      (try clear hb)
      (try clear hb2)
      (try clear hk)
      (try clear hi)
      refine hK.out _ _ ⟨(blk_cell BK162.out 0).trans rfl, (blk_cell BK162.out 1).trans rfl, (blk_cell BK163.out 0).trans rfl, (blk_cell BK163.out 1).trans rfl, (blk_cell BK172.out 0).trans rfl, (blk_cell BK172.out 1).trans rfl, (blk_cell BK176.out 0).trans rfl, (blk_cell BK176.out 1).trans rfl⟩ (fun hHeld => ?_)
      clear hK K
      refine norm_ (a' := ?_) ?_ ?_
      rotate_left
      ·show Act.put _ (some 30) _ = _
       simp only [Act.put, zT, z0, zS, i64_w, i32_w]
       rfl
      refine one_ (i := 5) (N := some 32) #[true, true, true, true, true, true, false, true, true, false, false, false, false, false, false, false, false, false, false, false, false, false, false, false, false, false, false, false, false, false, false, false, false, false, false, false, false, false, false, false, false, false, false, false, false, false, false] rfl rfl (one_of HT_.out (by kernel_rfl)) (by decide) (fun K hK => ?_)
      refine goes_ Try.func15 (by kernel_rfl) rfl #[.agg #[.int .i64 a1_0, .int .i64 a1_1]] (by rfl) rfl rfl (by (try simp only [List.map_toArray, List.map_cons, List.map_nil]); first | done | rfl | (simp only [List.length_drop, List.length_take]; rfl)) ?_
      with_reducible refine (reredoslaw06_made.calls a1_0 a1_1 t179 t180 _ A11.out).mono ?_
      rintro e w51 ⟨rfl, hb⟩
      refine ⟨_, rfl, ?_⟩
      have n0_ := am (bB (g := gb162) (o := .cells #[.int .i64 a0_0, .int .i64 a0_1] 23 (0, 0)) (by (with_reducible repeat (first | refine bN ?_ _ | refine bD ?_ | refine bA ?_ _)); exact BK162.out) hb)
      have n1_ := am (bB (g := gb163) (o := .cells #[.int .i64 a1_0, .int .i64 a1_1] 23 (0, 0)) (by (with_reducible repeat (first | refine bN ?_ _ | refine bD ?_ | refine bA ?_ _)); exact BK163.out) hb)
      have n2_ := am (bB (g := gb172) (o := .cells #[.int .i64 t169, .int .i64 t170] 26 (0, 0)) (by (with_reducible repeat (first | refine bN ?_ _ | refine bD ?_ | refine bA ?_ _)); exact BK172.out) hb)
      have n3_ := am (bB (g := gb176) (o := .cells #[.int .i64 t173, .int .i64 t174] 23 (0, 0)) (by (with_reducible repeat (first | refine bN ?_ _ | refine bD ?_ | refine bA ?_ _)); exact BK176.out) hb)
      have n4_ := am (below_step (by repeat (first | (with_reducible first | exact HB.out | apply lA | apply lN | apply lD | refine below_set ?_ GE162.out | refine below_set ?_ GE163.out | refine below_set ?_ GE172.out | refine below_set ?_ GE176.out) | exact HB.out)) hb)
      clear BK162
      clear BK163
      clear BK172
      clear BK176
      clear HB
      have BK162 := n0_
      have BK163 := n1_
      have BK172 := n2_
      have BK176 := n3_
      have HB := n4_
      clear n0_ n1_ n2_ n3_ n4_
      (try clear hb)
      (try clear hb2)
      (try clear hk)
      (try clear hi)
      refine hK.out _ _ ⟨(blk_cell BK162.out 0).trans rfl, (blk_cell BK162.out 1).trans rfl, (blk_cell BK163.out 0).trans rfl, (blk_cell BK163.out 1).trans rfl, (blk_cell BK172.out 0).trans rfl, (blk_cell BK172.out 1).trans rfl, (blk_cell BK176.out 0).trans rfl, (blk_cell BK176.out 1).trans rfl⟩ (fun hHeld => ?_)
      clear hK K
      refine norm_ (a' := ?_) ?_ ?_
      rotate_left
      ·show Act.put _ (some 32) _ = _
       simp only [Act.put, zT, z0, zS, i64_w, i32_w]
       rfl
      refine one_ (i := 6) (N := some 33) #[true, true, true, true, true, true, true, true, true, false, false, false, false, false, false, false, false, false, false, false, false, false, false, false, false, false, false, false, false, false, false, false, false, false, false, false, false, false, false, false, false, false, false, false, false, false, false] rfl rfl (one_of HT_.out (by kernel_rfl)) (by decide) (fun K hK => ?_)
      refine goes_ Try.func16 (by kernel_rfl) rfl #[.agg #[.int .i64 t177, .int .i64 t178], .agg #[.int .i64 t179, .int .i64 t180]] (by rfl) rfl rfl (by (try simp only [List.map_toArray, List.map_cons, List.map_nil]); first | done | rfl | (simp only [List.length_drop, List.length_take]; rfl)) ?_
      with_reducible refine (budget_Budget_Can.calls t177 t178 t179 t180 t181 _ A12.out).mono ?_
      rintro e w52 ⟨rfl, hb⟩
      refine ⟨_, rfl, ?_⟩
      have n0_ := am (bB (g := gb162) (o := .cells #[.int .i64 a0_0, .int .i64 a0_1] 23 (0, 0)) (by (with_reducible repeat (first | refine bN ?_ _ | refine bD ?_ | refine bA ?_ _)); exact BK162.out) hb)
      have n1_ := am (bB (g := gb163) (o := .cells #[.int .i64 a1_0, .int .i64 a1_1] 23 (0, 0)) (by (with_reducible repeat (first | refine bN ?_ _ | refine bD ?_ | refine bA ?_ _)); exact BK163.out) hb)
      have n2_ := am (bB (g := gb172) (o := .cells #[.int .i64 t169, .int .i64 t170] 26 (0, 0)) (by (with_reducible repeat (first | refine bN ?_ _ | refine bD ?_ | refine bA ?_ _)); exact BK172.out) hb)
      have n3_ := am (bB (g := gb176) (o := .cells #[.int .i64 t173, .int .i64 t174] 23 (0, 0)) (by (with_reducible repeat (first | refine bN ?_ _ | refine bD ?_ | refine bA ?_ _)); exact BK176.out) hb)
      have n4_ := am (below_step (by repeat (first | (with_reducible first | exact HB.out | apply lA | apply lN | apply lD | refine below_set ?_ GE162.out | refine below_set ?_ GE163.out | refine below_set ?_ GE172.out | refine below_set ?_ GE176.out) | exact HB.out)) hb)
      clear BK162
      clear BK163
      clear BK172
      clear BK176
      clear HB
      have BK162 := n0_
      have BK163 := n1_
      have BK172 := n2_
      have BK176 := n3_
      have HB := n4_
      clear n0_ n1_ n2_ n3_ n4_
      (try clear hb)
      (try clear hb2)
      (try clear hk)
      (try clear hi)
      refine hK.out _ _ ⟨(blk_cell BK162.out 0).trans rfl, (blk_cell BK162.out 1).trans rfl, (blk_cell BK163.out 0).trans rfl, (blk_cell BK163.out 1).trans rfl, (blk_cell BK172.out 0).trans rfl, (blk_cell BK172.out 1).trans rfl, (blk_cell BK176.out 0).trans rfl, (blk_cell BK176.out 1).trans rfl⟩ (fun hHeld => ?_)
      clear hK K
      refine norm_ (a' := ?_) ?_ ?_
      rotate_left
      ·show Act.put _ (some 33) _ = _
       simp only [Act.put, zT, z0, zS, i64_w, i32_w]
       rfl
      refine one_ (i := 9) (N := some 36) #[true, true, true, true, true, true, true, true, true, true, false, false, false, false, false, false, false, false, false, false, false, false, false, false, false, false, false, false, false, false, false, false, false, false, false, false, false, false, false, false, false, false, false, false, false, false, false] rfl rfl (one_of HT_.out (by kernel_rfl)) (by decide) (fun K hK => ?_)
      refine goes_ Try.func18 (by kernel_rfl) rfl #[.agg #[.int .i64 a0_0, .int .i64 a0_1], .agg #[.int .i64 a1_0, .int .i64 a1_1]] (by rfl) rfl rfl (by (try simp only [List.map_toArray, List.map_cons, List.map_nil]); first | done | rfl | (simp only [List.length_drop, List.length_take]; rfl)) ?_
      with_reducible refine (reredosref06_Can.calls a0_0 a0_1 a1_0 a1_1 t182 _ A13.out).mono ?_
      rintro e w53 ⟨rfl, hb⟩
      refine ⟨_, rfl, ?_⟩
      have n0_ := am (bB (g := gb162) (o := .cells #[.int .i64 a0_0, .int .i64 a0_1] 23 (0, 0)) (by (with_reducible repeat (first | refine bN ?_ _ | refine bD ?_ | refine bA ?_ _)); exact BK162.out) hb)
      have n1_ := am (bB (g := gb163) (o := .cells #[.int .i64 a1_0, .int .i64 a1_1] 23 (0, 0)) (by (with_reducible repeat (first | refine bN ?_ _ | refine bD ?_ | refine bA ?_ _)); exact BK163.out) hb)
      have n2_ := am (bB (g := gb172) (o := .cells #[.int .i64 t169, .int .i64 t170] 26 (0, 0)) (by (with_reducible repeat (first | refine bN ?_ _ | refine bD ?_ | refine bA ?_ _)); exact BK172.out) hb)
      have n3_ := am (bB (g := gb176) (o := .cells #[.int .i64 t173, .int .i64 t174] 23 (0, 0)) (by (with_reducible repeat (first | refine bN ?_ _ | refine bD ?_ | refine bA ?_ _)); exact BK176.out) hb)
      have n4_ := am (below_step (by repeat (first | (with_reducible first | exact HB.out | apply lA | apply lN | apply lD | refine below_set ?_ GE162.out | refine below_set ?_ GE163.out | refine below_set ?_ GE172.out | refine below_set ?_ GE176.out) | exact HB.out)) hb)
      clear BK162
      clear BK163
      clear BK172
      clear BK176
      clear HB
      have BK162 := n0_
      have BK163 := n1_
      have BK172 := n2_
      have BK176 := n3_
      have HB := n4_
      clear n0_ n1_ n2_ n3_ n4_
      (try clear hb)
      (try clear hb2)
      (try clear hk)
      (try clear hi)
      refine hK.out _ _ ⟨(blk_cell BK162.out 0).trans rfl, (blk_cell BK162.out 1).trans rfl, (blk_cell BK163.out 0).trans rfl, (blk_cell BK163.out 1).trans rfl, (blk_cell BK172.out 0).trans rfl, (blk_cell BK172.out 1).trans rfl, (blk_cell BK176.out 0).trans rfl, (blk_cell BK176.out 1).trans rfl⟩ (fun hHeld => ?_)
      clear hK K
      refine norm_ (a' := ?_) ?_ ?_
      rotate_left
      ·show Act.put _ (some 36) _ = _
       simp only [Act.put, zT, z0, zS, i64_w, i32_w]
       rfl
      refine pure_ (i := 10) (N := some 37) (v := ?_) (a' := ?_) #[true, true, true, true, true, true, true, true, true, true, true, false, false, false, false, false, false, false, false, false, false, false, false, false, false, false, false, false, false, false, false, false, false, false, false, false, false, false, false, false, false, false, false, false, false, false, false] rfl rfl (any_of HT_.out (by kernel_rfl)) (fun _ _ _ h => h) (Or.inl ⟨by rfl, ?_⟩) ?_ ?_
      rotate_left
      ·intro w'
       go_simp
       with_reducible rfl
      rotate_left
      ·simp only [Act.put, zT, z0, zS, i64_w, i32_w]
       rfl
      refine pure_ (i := 11) (N := some 38) (v := ?_) (a' := ?_) #[true, true, true, true, true, true, true, true, true, true, true, true, false, false, false, false, false, false, false, false, false, false, false, false, false, false, false, false, false, false, false, false, false, false, false, false, false, false, false, false, false, false, false, false, false, false, false] rfl rfl (any_of HT_.out (by kernel_rfl)) (fun _ _ _ h => h) (Or.inl ⟨by rfl, ?_⟩) ?_ ?_
      rotate_left
      ·intro w'
       go_simp
       with_reducible rfl
      rotate_left
      ·simp only [Act.put, zT, z0, zS, i64_w, i32_w]
       rfl
      refine pure_ (i := 12) (N := some 39) (v := ?_) (a' := ?_) #[true, true, true, true, true, true, true, true, true, true, true, true, true, false, false, false, false, false, false, false, false, false, false, false, false, false, false, false, false, false, false, false, false, false, false, false, false, false, false, false, false, false, false, false, false, false, false] rfl rfl (any_of HT_.out (by kernel_rfl)) (fun _ _ _ h => h) (Or.inl ⟨by rfl, ?_⟩) ?_ ?_
      rotate_left
      ·intro w'
       go_simp
       with_reducible rfl
      rotate_left
      ·simp only [Act.put, zT, z0, zS, i64_w, i32_w]
       rfl
      refine take_ (i := 13) (N := some 40) (v := ?_) (a' := ?_) #[true, true, true, true, true, true, true, true, true, true, true, true, true, true, false, false, false, false, false, false, false, false, false, false, false, false, false, false, false, false, false, false, false, false, false, false, false, false, false, false, false, false, false, false, false, false, false] rfl rfl (take_ofW HT_.out HW_.out (by kernel_rfl)) (fun _ _ _ h => h) (Or.inl ⟨by rfl, ?_⟩) hHeld ?_ ?_
      rotate_left
      ·rintro w' ⟨s0, s1, s2, s3, s4, s5, s6, s7⟩
       go_simp
       with_reducible rfl
      rotate_left
      ·simp only [Act.put, zT, z0, zS, i64_w, i32_w]
       rfl
      refine take_ (i := 15) (N := some 42) (v := ?_) (a' := ?_) #[true, true, true, true, true, true, true, true, true, true, true, true, true, true, false, true, false, false, false, false, false, false, false, false, false, false, false, false, false, false, false, false, false, false, false, false, false, false, false, false, false, false, false, false, false, false, false] rfl rfl (take_ofW HT_.out HW_.out (by kernel_rfl)) (fun _ _ _ h => h) (Or.inl ⟨by rfl, ?_⟩) hHeld ?_ ?_
      rotate_left
      ·rintro w' ⟨s0, s1, s2, s3, s4, s5, s6, s7⟩
       go_simp
       with_reducible rfl
      rotate_left
      ·simp only [Act.put, zT, z0, zS, i64_w, i32_w]
       rfl
      refine one_ (i := 14) (N := some 41) #[true, true, true, true, true, true, true, true, true, true, true, true, true, true, true, true, false, false, false, false, false, false, false, false, false, false, false, false, false, false, false, false, false, false, false, false, false, false, false, false, false, false, false, false, false, false, false] rfl rfl (one_of HT_.out (by kernel_rfl)) (by decide) (fun K hK => ?_)
      refine goes_ Try.func19 (by kernel_rfl) rfl #[.agg #[.int .i64 t169, .int .i64 t170]] (by rfl) rfl rfl (by (try simp only [List.map_toArray, List.map_cons, List.map_nil]); first | done | rfl | (simp only [List.length_drop, List.length_take]; rfl)) ?_
      with_reducible refine (reredoslaw06_real.calls t169 t170 t183 t184 _ A15.out).mono ?_
      rintro e w54 ⟨rfl, hb⟩
      refine ⟨_, rfl, ?_⟩
      have n0_ := am (bB (g := gb162) (o := .cells #[.int .i64 a0_0, .int .i64 a0_1] 23 (0, 0)) (by (with_reducible repeat (first | refine bN ?_ _ | refine bD ?_ | refine bA ?_ _)); exact BK162.out) hb)
      have n1_ := am (bB (g := gb163) (o := .cells #[.int .i64 a1_0, .int .i64 a1_1] 23 (0, 0)) (by (with_reducible repeat (first | refine bN ?_ _ | refine bD ?_ | refine bA ?_ _)); exact BK163.out) hb)
      have n2_ := am (bB (g := gb172) (o := .cells #[.int .i64 t169, .int .i64 t170] 26 (0, 0)) (by (with_reducible repeat (first | refine bN ?_ _ | refine bD ?_ | refine bA ?_ _)); exact BK172.out) hb)
      have n3_ := am (bB (g := gb176) (o := .cells #[.int .i64 t173, .int .i64 t174] 23 (0, 0)) (by (with_reducible repeat (first | refine bN ?_ _ | refine bD ?_ | refine bA ?_ _)); exact BK176.out) hb)
      have n4_ := am (below_step (by repeat (first | (with_reducible first | exact HB.out | apply lA | apply lN | apply lD | refine below_set ?_ GE162.out | refine below_set ?_ GE163.out | refine below_set ?_ GE172.out | refine below_set ?_ GE176.out) | exact HB.out)) hb)
      clear BK162
      clear BK163
      clear BK172
      clear BK176
      clear HB
      have BK162 := n0_
      have BK163 := n1_
      have BK172 := n2_
      have BK176 := n3_
      have HB := n4_
      clear n0_ n1_ n2_ n3_ n4_
      (try clear hb)
      (try clear hb2)
      (try clear hk)
      (try clear hi)
      refine hK.out _ _ ⟨(blk_cell BK162.out 0).trans rfl, (blk_cell BK162.out 1).trans rfl, (blk_cell BK163.out 0).trans rfl, (blk_cell BK163.out 1).trans rfl, (blk_cell BK172.out 0).trans rfl, (blk_cell BK172.out 1).trans rfl, (blk_cell BK176.out 0).trans rfl, (blk_cell BK176.out 1).trans rfl⟩ (fun hHeld => ?_)
      clear hK K
      refine norm_ (a' := ?_) ?_ ?_
      rotate_left
      ·show Act.put _ (some 41) _ = _
       simp only [Act.put, zT, z0, zS, i64_w, i32_w]
       rfl
      refine pure_ (i := 16) (N := some 43) (v := ?_) (a' := ?_) #[true, true, true, true, true, true, true, true, true, true, true, true, true, true, true, true, true, false, false, false, false, false, false, false, false, false, false, false, false, false, false, false, false, false, false, false, false, false, false, false, false, false, false, false, false, false, false] rfl rfl (any_of HT_.out (by kernel_rfl)) (fun _ _ _ h => h) (Or.inl ⟨by rfl, ?_⟩) ?_ ?_
      rotate_left
      ·intro w'
       go_simp
       with_reducible rfl
      rotate_left
      ·simp only [Act.put, zT, z0, zS, i64_w, i32_w]
       rfl
      refine pure_ (i := 17) (N := some 44) (v := ?_) (a' := ?_) #[true, true, true, true, true, true, true, true, true, true, true, true, true, true, true, true, true, true, false, false, false, false, false, false, false, false, false, false, false, false, false, false, false, false, false, false, false, false, false, false, false, false, false, false, false, false, false] rfl rfl (any_of HT_.out (by kernel_rfl)) (fun _ _ _ h => h) (Or.inl ⟨by rfl, ?_⟩) ?_ ?_
      rotate_left
      ·intro w'
       go_simp
       with_reducible rfl
      rotate_left
      ·simp only [Act.put, zT, z0, zS, i64_w, i32_w]
       rfl
      refine pure_ (i := 18) (N := some 45) (v := ?_) (a' := ?_) #[true, true, true, true, true, true, true, true, true, true, true, true, true, true, true, true, true, true, true, false, false, false, false, false, false, false, false, false, false, false, false, false, false, false, false, false, false, false, false, false, false, false, false, false, false, false, false] rfl rfl (any_of HT_.out (by kernel_rfl)) (fun _ _ _ h => h) (Or.inl ⟨by rfl, ?_⟩) ?_ ?_
      rotate_left
      ·intro w'
       go_simp
       with_reducible rfl
      rotate_left
      ·simp only [Act.put, zT, z0, zS, i64_w, i32_w]
       rfl
      refine pure_ (i := 19) (N := some 46) (v := ?_) (a' := ?_) #[true, true, true, true, true, true, true, true, true, true, true, true, true, true, true, true, true, true, true, true, false, false, false, false, false, false, false, false, false, false, false, false, false, false, false, false, false, false, false, false, false, false, false, false, false, false, false] rfl rfl (any_of HT_.out (by kernel_rfl)) (fun _ _ _ h => h) (Or.inl ⟨by rfl, ?_⟩) ?_ ?_
      rotate_left
      ·intro w'
       go_simp
       with_reducible rfl
      rotate_left
      ·simp only [Act.put, zT, z0, zS, i64_w, i32_w]
       rfl
      refine pure_ (i := 20) (N := some 47) (v := ?_) (a' := ?_) #[true, true, true, true, true, true, true, true, true, true, true, true, true, true, true, true, true, true, true, true, true, false, false, false, false, false, false, false, false, false, false, false, false, false, false, false, false, false, false, false, false, false, false, false, false, false, false] rfl rfl (any_of HT_.out (by kernel_rfl)) (fun _ _ _ h => h) (Or.inl ⟨by rfl, ?_⟩) ?_ ?_
      rotate_left
      ·intro w'
       go_simp
       with_reducible rfl
      rotate_left
      ·simp only [Act.put, zT, z0, zS, i64_w, i32_w]
       rfl
      refine pure_ (i := 21) (N := some 48) (v := ?_) (a' := ?_) #[true, true, true, true, true, true, true, true, true, true, true, true, true, true, true, true, true, true, true, true, true, true, false, false, false, false, false, false, false, false, false, false, false, false, false, false, false, false, false, false, false, false, false, false, false, false, false] rfl rfl (any_of HT_.out (by kernel_rfl)) (fun _ _ _ h => h) (Or.inl ⟨by rfl, ?_⟩) ?_ ?_
      rotate_left
      ·intro w'
       go_simp
       with_reducible rfl
      rotate_left
      ·simp only [Act.put, zT, z0, zS, i64_w, i32_w]
       rfl
      refine pure_ (i := 22) (N := some 49) (v := ?_) (a' := ?_) #[true, true, true, true, true, true, true, true, true, true, true, true, true, true, true, true, true, true, true, true, true, true, true, false, false, false, false, false, false, false, false, false, false, false, false, false, false, false, false, false, false, false, false, false, false, false, false] rfl rfl (any_of HT_.out (by kernel_rfl)) (fun _ _ _ h => h) (Or.inl ⟨by rfl, ?_⟩) ?_ ?_
      rotate_left
      ·intro w'
       go_simp
       with_reducible rfl
      rotate_left
      ·simp only [Act.put, zT, z0, zS, i64_w, i32_w]
       rfl
      refine pure_ (i := 23) (N := some 50) (v := ?_) (a' := ?_) #[true, true, true, true, true, true, true, true, true, true, true, true, true, true, true, true, true, true, true, true, true, true, true, true, false, false, false, false, false, false, false, false, false, false, false, false, false, false, false, false, false, false, false, false, false, false, false] rfl rfl (any_of HT_.out (by kernel_rfl)) (fun _ _ _ h => h) (Or.inl ⟨by rfl, ?_⟩) ?_ ?_
      rotate_left
      ·intro w'
       go_simp
       with_reducible rfl
      rotate_left
      ·simp only [Act.put, zT, z0, zS, i64_w, i32_w]
       rfl
      refine pure_ (i := 26) (N := some 53) (v := ?_) (a' := ?_) #[true, true, true, true, true, true, true, true, true, true, true, true, true, true, true, true, true, true, true, true, true, true, true, true, false, false, true, false, false, false, false, false, false, false, false, false, false, false, false, false, false, false, false, false, false, false, false] rfl rfl (any_of HT_.out (by kernel_rfl)) (fun _ _ _ h => h) (Or.inl ⟨by rfl, ?_⟩) ?_ ?_
      rotate_left
      ·intro w'
       go_simp
       with_reducible rfl
      rotate_left
      ·simp only [Act.put, zT, z0, zS, i64_w, i32_w]
       rfl
      refine pure_ (i := 30) (N := some 57) (v := ?_) (a' := ?_) #[true, true, true, true, true, true, true, true, true, true, true, true, true, true, true, true, true, true, true, true, true, true, true, true, false, false, true, false, false, false, true, false, false, false, false, false, false, false, false, false, false, false, false, false, false, false, false] rfl rfl (any_of HT_.out (by kernel_rfl)) (fun _ _ _ h => h) (Or.inl ⟨by rfl, ?_⟩) ?_ ?_
      rotate_left
      ·intro w'
       go_simp
       with_reducible rfl
      rotate_left
      ·simp only [Act.put, zT, z0, zS, i64_w, i32_w]
       rfl
      refine take_ (i := 24) (N := some 51) (v := ?_) (a' := ?_) #[true, true, true, true, true, true, true, true, true, true, true, true, true, true, true, true, true, true, true, true, true, true, true, true, true, false, true, false, false, false, true, false, false, false, false, false, false, false, false, false, false, false, false, false, false, false, false] rfl rfl (take_ofW HT_.out HW_.out (by kernel_rfl)) (fun _ _ _ h => h) (Or.inl ⟨by rfl, ?_⟩) hHeld ?_ ?_
      rotate_left
      ·rintro w' ⟨s0, s1, s2, s3, s4, s5, s6, s7⟩
       go_simp
       with_reducible rfl
      rotate_left
      ·simp only [Act.put, zT, z0, zS, i64_w, i32_w]
       rfl
      refine take_ (i := 29) (N := some 56) (v := ?_) (a' := ?_) #[true, true, true, true, true, true, true, true, true, true, true, true, true, true, true, true, true, true, true, true, true, true, true, true, true, false, true, false, false, true, true, false, false, false, false, false, false, false, false, false, false, false, false, false, false, false, false] rfl rfl (take_ofW HT_.out HW_.out (by kernel_rfl)) (fun _ _ _ h => h) (Or.inl ⟨by rfl, ?_⟩) hHeld ?_ ?_
      rotate_left
      ·rintro w' ⟨s0, s1, s2, s3, s4, s5, s6, s7⟩
       go_simp
       with_reducible rfl
      rotate_left
      ·simp only [Act.put, zT, z0, zS, i64_w, i32_w]
       rfl
      refine one_ (i := 25) (N := some 52) #[true, true, true, true, true, true, true, true, true, true, true, true, true, true, true, true, true, true, true, true, true, true, true, true, true, true, true, false, false, true, true, false, false, false, false, false, false, false, false, false, false, false, false, false, false, false, false] rfl rfl (one_of HT_.out (by kernel_rfl)) (by decide) (fun K hK => ?_)
      refine goes_ Try.func15 (by kernel_rfl) rfl #[.agg #[.int .i64 a0_0, .int .i64 a0_1]] (by rfl) rfl rfl (by (try simp only [List.map_toArray, List.map_cons, List.map_nil]); first | done | rfl | (simp only [List.length_drop, List.length_take]; rfl)) ?_
      with_reducible refine (reredoslaw06_made.calls a0_0 a0_1 t185 t186 _ A18.out).mono ?_
      rintro e w55 ⟨rfl, hb⟩
      refine ⟨_, rfl, ?_⟩
      have n0_ := am (bB (g := gb162) (o := .cells #[.int .i64 a0_0, .int .i64 a0_1] 23 (0, 0)) (by (with_reducible repeat (first | refine bN ?_ _ | refine bD ?_ | refine bA ?_ _)); exact BK162.out) hb)
      have n1_ := am (bB (g := gb163) (o := .cells #[.int .i64 a1_0, .int .i64 a1_1] 23 (0, 0)) (by (with_reducible repeat (first | refine bN ?_ _ | refine bD ?_ | refine bA ?_ _)); exact BK163.out) hb)
      have n2_ := am (bB (g := gb172) (o := .cells #[.int .i64 t169, .int .i64 t170] 26 (0, 0)) (by (with_reducible repeat (first | refine bN ?_ _ | refine bD ?_ | refine bA ?_ _)); exact BK172.out) hb)
      have n3_ := am (bB (g := gb176) (o := .cells #[.int .i64 t173, .int .i64 t174] 23 (0, 0)) (by (with_reducible repeat (first | refine bN ?_ _ | refine bD ?_ | refine bA ?_ _)); exact BK176.out) hb)
      have n4_ := am (below_step (by repeat (first | (with_reducible first | exact HB.out | apply lA | apply lN | apply lD | refine below_set ?_ GE162.out | refine below_set ?_ GE163.out | refine below_set ?_ GE172.out | refine below_set ?_ GE176.out) | exact HB.out)) hb)
      clear BK162
      clear BK163
      clear BK172
      clear BK176
      clear HB
      have BK162 := n0_
      have BK163 := n1_
      have BK172 := n2_
      have BK176 := n3_
      have HB := n4_
      clear n0_ n1_ n2_ n3_ n4_
      (try clear hb)
      (try clear hb2)
      (try clear hk)
      (try clear hi)
      refine hK.out _ _ ⟨(blk_cell BK162.out 0).trans rfl, (blk_cell BK162.out 1).trans rfl, (blk_cell BK163.out 0).trans rfl, (blk_cell BK163.out 1).trans rfl, (blk_cell BK172.out 0).trans rfl, (blk_cell BK172.out 1).trans rfl, (blk_cell BK176.out 0).trans rfl, (blk_cell BK176.out 1).trans rfl⟩ (fun hHeld => ?_)
      clear hK K
      refine norm_ (a' := ?_) ?_ ?_
      rotate_left
      ·show Act.put _ (some 52) _ = _
       simp only [Act.put, zT, z0, zS, i64_w, i32_w]
       rfl
      refine one_ (i := 27) (N := some 54) #[true, true, true, true, true, true, true, true, true, true, true, true, true, true, true, true, true, true, true, true, true, true, true, true, true, true, true, true, false, true, true, false, false, false, false, false, false, false, false, false, false, false, false, false, false, false, false] rfl rfl (one_of HT_.out (by kernel_rfl)) (by decide) (fun K hK => ?_)
      refine goes_ Try.func20 (by kernel_rfl) rfl #[.agg #[.int .i64 t185, .int .i64 t186], .int .i64 a2] (by rfl) rfl rfl (by (try simp only [List.map_toArray, List.map_cons, List.map_nil]); first | done | rfl | (simp only [List.length_drop, List.length_take]; rfl)) ?_
      with_reducible refine (budget_Times.calls t185 t186 a2 t187 t188 _ A19.out).mono ?_
      rintro e w56 ⟨rfl, hb⟩
      refine ⟨_, rfl, ?_⟩
      have n0_ := am (bB (g := gb162) (o := .cells #[.int .i64 a0_0, .int .i64 a0_1] 23 (0, 0)) (by (with_reducible repeat (first | refine bN ?_ _ | refine bD ?_ | refine bA ?_ _)); exact BK162.out) hb)
      have n1_ := am (bB (g := gb163) (o := .cells #[.int .i64 a1_0, .int .i64 a1_1] 23 (0, 0)) (by (with_reducible repeat (first | refine bN ?_ _ | refine bD ?_ | refine bA ?_ _)); exact BK163.out) hb)
      have n2_ := am (bB (g := gb172) (o := .cells #[.int .i64 t169, .int .i64 t170] 26 (0, 0)) (by (with_reducible repeat (first | refine bN ?_ _ | refine bD ?_ | refine bA ?_ _)); exact BK172.out) hb)
      have n3_ := am (bB (g := gb176) (o := .cells #[.int .i64 t173, .int .i64 t174] 23 (0, 0)) (by (with_reducible repeat (first | refine bN ?_ _ | refine bD ?_ | refine bA ?_ _)); exact BK176.out) hb)
      have n4_ := am (below_step (by repeat (first | (with_reducible first | exact HB.out | apply lA | apply lN | apply lD | refine below_set ?_ GE162.out | refine below_set ?_ GE163.out | refine below_set ?_ GE172.out | refine below_set ?_ GE176.out) | exact HB.out)) hb)
      clear BK162
      clear BK163
      clear BK172
      clear BK176
      clear HB
      have BK162 := n0_
      have BK163 := n1_
      have BK172 := n2_
      have BK176 := n3_
      have HB := n4_
      clear n0_ n1_ n2_ n3_ n4_
      (try clear hb)
      (try clear hb2)
      (try clear hk)
      (try clear hi)
      refine hK.out _ _ ⟨(blk_cell BK162.out 0).trans rfl, (blk_cell BK162.out 1).trans rfl, (blk_cell BK163.out 0).trans rfl, (blk_cell BK163.out 1).trans rfl, (blk_cell BK172.out 0).trans rfl, (blk_cell BK172.out 1).trans rfl, (blk_cell BK176.out 0).trans rfl, (blk_cell BK176.out 1).trans rfl⟩ (fun hHeld => ?_)
      clear hK K
      refine norm_ (a' := ?_) ?_ ?_
      rotate_left
      ·show Act.put _ (some 54) _ = _
       simp only [Act.put, zT, z0, zS, i64_w, i32_w]
       rfl
      refine one_ (i := 28) (N := some 55) #[true, true, true, true, true, true, true, true, true, true, true, true, true, true, true, true, true, true, true, true, true, true, true, true, true, true, true, true, true, true, true, false, false, false, false, false, false, false, false, false, false, false, false, false, false, false, false] rfl rfl (one_of HT_.out (by kernel_rfl)) (by decide) (fun K hK => ?_)
      refine goes_ Try.func19 (by kernel_rfl) rfl #[.agg #[.int .i64 t187, .int .i64 t188]] (by rfl) rfl rfl (by (try simp only [List.map_toArray, List.map_cons, List.map_nil]); first | done | rfl | (simp only [List.length_drop, List.length_take]; rfl)) ?_
      with_reducible refine (reredoslaw06_real.calls t187 t188 t189 t190 _ A20.out).mono ?_
      rintro e w57 ⟨rfl, hb⟩
      refine ⟨_, rfl, ?_⟩
      have n0_ := am (bB (g := gb162) (o := .cells #[.int .i64 a0_0, .int .i64 a0_1] 23 (0, 0)) (by (with_reducible repeat (first | refine bN ?_ _ | refine bD ?_ | refine bA ?_ _)); exact BK162.out) hb)
      have n1_ := am (bB (g := gb163) (o := .cells #[.int .i64 a1_0, .int .i64 a1_1] 23 (0, 0)) (by (with_reducible repeat (first | refine bN ?_ _ | refine bD ?_ | refine bA ?_ _)); exact BK163.out) hb)
      have n2_ := am (bB (g := gb172) (o := .cells #[.int .i64 t169, .int .i64 t170] 26 (0, 0)) (by (with_reducible repeat (first | refine bN ?_ _ | refine bD ?_ | refine bA ?_ _)); exact BK172.out) hb)
      have n3_ := am (bB (g := gb176) (o := .cells #[.int .i64 t173, .int .i64 t174] 23 (0, 0)) (by (with_reducible repeat (first | refine bN ?_ _ | refine bD ?_ | refine bA ?_ _)); exact BK176.out) hb)
      have n4_ := am (below_step (by repeat (first | (with_reducible first | exact HB.out | apply lA | apply lN | apply lD | refine below_set ?_ GE162.out | refine below_set ?_ GE163.out | refine below_set ?_ GE172.out | refine below_set ?_ GE176.out) | exact HB.out)) hb)
      clear BK162
      clear BK163
      clear BK172
      clear BK176
      clear HB
      have BK162 := n0_
      have BK163 := n1_
      have BK172 := n2_
      have BK176 := n3_
      have HB := n4_
      clear n0_ n1_ n2_ n3_ n4_
      (try clear hb)
      (try clear hb2)
      (try clear hk)
      (try clear hi)
      refine hK.out _ _ ⟨(blk_cell BK162.out 0).trans rfl, (blk_cell BK162.out 1).trans rfl, (blk_cell BK163.out 0).trans rfl, (blk_cell BK163.out 1).trans rfl, (blk_cell BK172.out 0).trans rfl, (blk_cell BK172.out 1).trans rfl, (blk_cell BK176.out 0).trans rfl, (blk_cell BK176.out 1).trans rfl⟩ (fun hHeld => ?_)
      clear hK K
      refine norm_ (a' := ?_) ?_ ?_
      rotate_left
      ·show Act.put _ (some 55) _ = _
       simp only [Act.put, zT, z0, zS, i64_w, i32_w]
       rfl
      refine one_ (i := 31) (N := some 58) #[true, true, true, true, true, true, true, true, true, true, true, true, true, true, true, true, true, true, true, true, true, true, true, true, true, true, true, true, true, true, true, true, false, false, false, false, false, false, false, false, false, false, false, false, false, false, false] rfl rfl (one_of HT_.out (by kernel_rfl)) (by decide) (fun K hK => ?_)
      refine goes_ Try.func21 (by kernel_rfl) rfl #[.agg #[.int .i64 a0_0, .int .i64 a0_1], .int .i64 a2] (by rfl) rfl rfl (by (try simp only [List.map_toArray, List.map_cons, List.map_nil]); first | done | rfl | (simp only [List.length_drop, List.length_take]; rfl)) ?_
      with_reducible refine (reredosref06_Times.calls k a0_0 a0_1 a2 t191 t192 _ A21.out).mono ?_
      rintro e w58 ⟨rfl, hb⟩
      refine ⟨_, rfl, ?_⟩
      have n0_ := am (bB (g := gb162) (o := .cells #[.int .i64 a0_0, .int .i64 a0_1] 23 (0, 0)) (by (with_reducible repeat (first | refine bN ?_ _ | refine bD ?_ | refine bA ?_ _)); exact BK162.out) hb)
      have n1_ := am (bB (g := gb163) (o := .cells #[.int .i64 a1_0, .int .i64 a1_1] 23 (0, 0)) (by (with_reducible repeat (first | refine bN ?_ _ | refine bD ?_ | refine bA ?_ _)); exact BK163.out) hb)
      have n2_ := am (bB (g := gb172) (o := .cells #[.int .i64 t169, .int .i64 t170] 26 (0, 0)) (by (with_reducible repeat (first | refine bN ?_ _ | refine bD ?_ | refine bA ?_ _)); exact BK172.out) hb)
      have n3_ := am (bB (g := gb176) (o := .cells #[.int .i64 t173, .int .i64 t174] 23 (0, 0)) (by (with_reducible repeat (first | refine bN ?_ _ | refine bD ?_ | refine bA ?_ _)); exact BK176.out) hb)
      have n4_ := am (below_step (by repeat (first | (with_reducible first | exact HB.out | apply lA | apply lN | apply lD | refine below_set ?_ GE162.out | refine below_set ?_ GE163.out | refine below_set ?_ GE172.out | refine below_set ?_ GE176.out) | exact HB.out)) hb)
      clear BK162
      clear BK163
      clear BK172
      clear BK176
      clear HB
      have BK162 := n0_
      have BK163 := n1_
      have BK172 := n2_
      have BK176 := n3_
      have HB := n4_
      clear n0_ n1_ n2_ n3_ n4_
      (try clear hb)
      (try clear hb2)
      (try clear hk)
      (try clear hi)
      refine hK.out _ _ ⟨(blk_cell BK162.out 0).trans rfl, (blk_cell BK162.out 1).trans rfl, (blk_cell BK163.out 0).trans rfl, (blk_cell BK163.out 1).trans rfl, (blk_cell BK172.out 0).trans rfl, (blk_cell BK172.out 1).trans rfl, (blk_cell BK176.out 0).trans rfl, (blk_cell BK176.out 1).trans rfl⟩ (fun hHeld => ?_)
      clear hK K
      refine norm_ (a' := ?_) ?_ ?_
      rotate_left
      ·show Act.put _ (some 58) _ = _
       simp only [Act.put, zT, z0, zS, i64_w, i32_w]
       rfl
      refine pure_ (i := 32) (N := some 59) (v := ?_) (a' := ?_) #[true, true, true, true, true, true, true, true, true, true, true, true, true, true, true, true, true, true, true, true, true, true, true, true, true, true, true, true, true, true, true, true, true, false, false, false, false, false, false, false, false, false, false, false, false, false, false] rfl rfl (any_of HT_.out (by kernel_rfl)) (fun _ _ _ h => h) (Or.inl ⟨by rfl, ?_⟩) ?_ ?_
      rotate_left
      ·intro w'
       go_simp
       with_reducible rfl
      rotate_left
      ·simp only [Act.put, zT, z0, zS, i64_w, i32_w]
       rfl
      refine pure_ (i := 33) (N := some 60) (v := ?_) (a' := ?_) #[true, true, true, true, true, true, true, true, true, true, true, true, true, true, true, true, true, true, true, true, true, true, true, true, true, true, true, true, true, true, true, true, true, true, false, false, false, false, false, false, false, false, false, false, false, false, false] rfl rfl (any_of HT_.out (by kernel_rfl)) (fun _ _ _ h => h) (Or.inl ⟨by rfl, ?_⟩) ?_ ?_
      rotate_left
      ·intro w'
       go_simp
       with_reducible rfl
      rotate_left
      ·simp only [Act.put, zT, z0, zS, i64_w, i32_w]
       rfl
      refine pure_ (i := 34) (N := some 61) (v := ?_) (a' := ?_) #[true, true, true, true, true, true, true, true, true, true, true, true, true, true, true, true, true, true, true, true, true, true, true, true, true, true, true, true, true, true, true, true, true, true, true, false, false, false, false, false, false, false, false, false, false, false, false] rfl rfl (any_of HT_.out (by kernel_rfl)) (fun _ _ _ h => h) (Or.inl ⟨by rfl, ?_⟩) ?_ ?_
      rotate_left
      ·intro w'
       go_simp
       with_reducible rfl
      rotate_left
      ·simp only [Act.put, zT, z0, zS, i64_w, i32_w]
       rfl
      refine pure_ (i := 35) (N := some 62) (v := ?_) (a' := ?_) #[true, true, true, true, true, true, true, true, true, true, true, true, true, true, true, true, true, true, true, true, true, true, true, true, true, true, true, true, true, true, true, true, true, true, true, true, false, false, false, false, false, false, false, false, false, false, false] rfl rfl (any_of HT_.out (by kernel_rfl)) (fun _ _ _ h => h) (Or.inl ⟨by rfl, ?_⟩) ?_ ?_
      rotate_left
      ·intro w'
       go_simp
       with_reducible rfl
      rotate_left
      ·simp only [Act.put, zT, z0, zS, i64_w, i32_w]
       rfl
      refine pure_ (i := 37) (N := some 64) (v := ?_) (a' := ?_) #[true, true, true, true, true, true, true, true, true, true, true, true, true, true, true, true, true, true, true, true, true, true, true, true, true, true, true, true, true, true, true, true, true, true, true, true, false, true, false, false, false, false, false, false, false, false, false] rfl rfl (any_of HT_.out (by kernel_rfl)) (fun _ _ _ h => h) (Or.inl ⟨by rfl, ?_⟩) ?_ ?_
      rotate_left
      ·intro w'
       go_simp
       with_reducible rfl
      rotate_left
      ·simp only [Act.put, zT, z0, zS, i64_w, i32_w]
       rfl
      refine pure_ (i := 40) (N := some 67) (v := ?_) (a' := ?_) #[true, true, true, true, true, true, true, true, true, true, true, true, true, true, true, true, true, true, true, true, true, true, true, true, true, true, true, true, true, true, true, true, true, true, true, true, false, true, false, false, true, false, false, false, false, false, false] rfl rfl (any_of HT_.out (by kernel_rfl)) (fun _ _ _ h => h) (Or.inl ⟨by rfl, ?_⟩) ?_ ?_
      rotate_left
      ·intro w'
       go_simp
       with_reducible rfl
      rotate_left
      ·simp only [Act.put, zT, z0, zS, i64_w, i32_w]
       rfl
      refine pure_ (i := 42) (N := some 69) (v := ?_) (a' := ?_) #[true, true, true, true, true, true, true, true, true, true, true, true, true, true, true, true, true, true, true, true, true, true, true, true, true, true, true, true, true, true, true, true, true, true, true, true, false, true, false, false, true, false, true, false, false, false, false] rfl rfl (any_of HT_.out (by kernel_rfl)) (fun _ _ _ h => h) (Or.inl ⟨by rfl, ?_⟩) ?_ ?_
      rotate_left
      ·intro w'
       go_simp
       with_reducible rfl
      rotate_left
      ·simp only [Act.put, zT, z0, zS, i64_w, i32_w]
       rfl
      refine take_ (i := 36) (N := some 63) (v := ?_) (a' := ?_) #[true, true, true, true, true, true, true, true, true, true, true, true, true, true, true, true, true, true, true, true, true, true, true, true, true, true, true, true, true, true, true, true, true, true, true, true, true, true, false, false, true, false, true, false, false, false, false] rfl rfl (take_ofW HT_.out HW_.out (by kernel_rfl)) (fun _ _ _ h => h) (Or.inl ⟨by rfl, ?_⟩) hHeld ?_ ?_
      rotate_left
      ·rintro w' ⟨s0, s1, s2, s3, s4, s5, s6, s7⟩
       go_simp
       with_reducible rfl
      rotate_left
      ·simp only [Act.put, zT, z0, zS, i64_w, i32_w]
       rfl
      refine take_ (i := 41) (N := some 68) (v := ?_) (a' := ?_) #[true, true, true, true, true, true, true, true, true, true, true, true, true, true, true, true, true, true, true, true, true, true, true, true, true, true, true, true, true, true, true, true, true, true, true, true, true, true, false, false, true, true, true, false, false, false, false] rfl rfl (take_ofW HT_.out HW_.out (by kernel_rfl)) (fun _ _ _ h => h) (Or.inl ⟨by rfl, ?_⟩) hHeld ?_ ?_
      rotate_left
      ·rintro w' ⟨s0, s1, s2, s3, s4, s5, s6, s7⟩
       go_simp
       with_reducible rfl
      rotate_left
      ·simp only [Act.put, zT, z0, zS, i64_w, i32_w]
       rfl
      refine one_ (i := 38) (N := some 65) #[true, true, true, true, true, true, true, true, true, true, true, true, true, true, true, true, true, true, true, true, true, true, true, true, true, true, true, true, true, true, true, true, true, true, true, true, true, true, true, false, true, true, true, false, false, false, false] rfl rfl (one_of HT_.out (by kernel_rfl)) (by decide) (fun K hK => ?_)
      refine goes_ Try.func13 (by kernel_rfl) rfl #[.int .i64 a0_0, .int .i64 a2] (by rfl) rfl rfl (by (try simp only [List.map_toArray, List.map_cons, List.map_nil]); first | done | rfl | (simp only [List.length_drop, List.length_take]; rfl)) ?_
      with_reducible refine (budget_New.calls a0_0 a2 t193 t194 _ A23.out).mono ?_
      rintro e w59 ⟨rfl, hb⟩
      refine ⟨_, rfl, ?_⟩
      have n0_ := am (bB (g := gb162) (o := .cells #[.int .i64 a0_0, .int .i64 a0_1] 23 (0, 0)) (by (with_reducible repeat (first | refine bN ?_ _ | refine bD ?_ | refine bA ?_ _)); exact BK162.out) hb)
      have n1_ := am (bB (g := gb163) (o := .cells #[.int .i64 a1_0, .int .i64 a1_1] 23 (0, 0)) (by (with_reducible repeat (first | refine bN ?_ _ | refine bD ?_ | refine bA ?_ _)); exact BK163.out) hb)
      have n2_ := am (bB (g := gb172) (o := .cells #[.int .i64 t169, .int .i64 t170] 26 (0, 0)) (by (with_reducible repeat (first | refine bN ?_ _ | refine bD ?_ | refine bA ?_ _)); exact BK172.out) hb)
      have n3_ := am (bB (g := gb176) (o := .cells #[.int .i64 t173, .int .i64 t174] 23 (0, 0)) (by (with_reducible repeat (first | refine bN ?_ _ | refine bD ?_ | refine bA ?_ _)); exact BK176.out) hb)
      have n4_ := am (below_step (by repeat (first | (with_reducible first | exact HB.out | apply lA | apply lN | apply lD | refine below_set ?_ GE162.out | refine below_set ?_ GE163.out | refine below_set ?_ GE172.out | refine below_set ?_ GE176.out) | exact HB.out)) hb)
      clear BK162
      clear BK163
      clear BK172
      clear BK176
      clear HB
      have BK162 := n0_
      have BK163 := n1_
      have BK172 := n2_
      have BK176 := n3_
      have HB := n4_
      clear n0_ n1_ n2_ n3_ n4_
      (try clear hb)
      (try clear hb2)
      (try clear hk)
      (try clear hi)
      refine hK.out _ _ ⟨(blk_cell BK162.out 0).trans rfl, (blk_cell BK162.out 1).trans rfl, (blk_cell BK163.out 0).trans rfl, (blk_cell BK163.out 1).trans rfl, (blk_cell BK172.out 0).trans rfl, (blk_cell BK172.out 1).trans rfl, (blk_cell BK176.out 0).trans rfl, (blk_cell BK176.out 1).trans rfl⟩ (fun hHeld => ?_)
      clear hK K
      refine norm_ (a' := ?_) ?_ ?_
      rotate_left
      ·show Act.put _ (some 65) _ = _
       simp only [Act.put, zT, z0, zS, i64_w, i32_w]
       rfl
      refine one_ (i := 39) (N := some 66) #[true, true, true, true, true, true, true, true, true, true, true, true, true, true, true, true, true, true, true, true, true, true, true, true, true, true, true, true, true, true, true, true, true, true, true, true, true, true, true, true, true, true, true, false, false, false, false] rfl rfl (one_of HT_.out (by kernel_rfl)) (by decide) (fun K hK => ?_)
      refine goes_ Try.func19 (by kernel_rfl) rfl #[.agg #[.int .i64 t193, .int .i64 t194]] (by rfl) rfl rfl (by (try simp only [List.map_toArray, List.map_cons, List.map_nil]); first | done | rfl | (simp only [List.length_drop, List.length_take]; rfl)) ?_
      with_reducible refine (reredoslaw06_real.calls t193 t194 t195 t196 _ A24.out).mono ?_
      rintro e w60 ⟨rfl, hb⟩
      refine ⟨_, rfl, ?_⟩
      have n0_ := am (bB (g := gb162) (o := .cells #[.int .i64 a0_0, .int .i64 a0_1] 23 (0, 0)) (by (with_reducible repeat (first | refine bN ?_ _ | refine bD ?_ | refine bA ?_ _)); exact BK162.out) hb)
      have n1_ := am (bB (g := gb163) (o := .cells #[.int .i64 a1_0, .int .i64 a1_1] 23 (0, 0)) (by (with_reducible repeat (first | refine bN ?_ _ | refine bD ?_ | refine bA ?_ _)); exact BK163.out) hb)
      have n2_ := am (bB (g := gb172) (o := .cells #[.int .i64 t169, .int .i64 t170] 26 (0, 0)) (by (with_reducible repeat (first | refine bN ?_ _ | refine bD ?_ | refine bA ?_ _)); exact BK172.out) hb)
      have n3_ := am (bB (g := gb176) (o := .cells #[.int .i64 t173, .int .i64 t174] 23 (0, 0)) (by (with_reducible repeat (first | refine bN ?_ _ | refine bD ?_ | refine bA ?_ _)); exact BK176.out) hb)
      have n4_ := am (below_step (by repeat (first | (with_reducible first | exact HB.out | apply lA | apply lN | apply lD | refine below_set ?_ GE162.out | refine below_set ?_ GE163.out | refine below_set ?_ GE172.out | refine below_set ?_ GE176.out) | exact HB.out)) hb)
      clear BK162
      clear BK163
      clear BK172
      clear BK176
      clear HB
      have BK162 := n0_
      have BK163 := n1_
      have BK172 := n2_
      have BK176 := n3_
      have HB := n4_
      clear n0_ n1_ n2_ n3_ n4_
      (try clear hb)
      (try clear hb2)
      (try clear hk)
      (try clear hi)
      refine hK.out _ _ ⟨(blk_cell BK162.out 0).trans rfl, (blk_cell BK162.out 1).trans rfl, (blk_cell BK163.out 0).trans rfl, (blk_cell BK163.out 1).trans rfl, (blk_cell BK172.out 0).trans rfl, (blk_cell BK172.out 1).trans rfl, (blk_cell BK176.out 0).trans rfl, (blk_cell BK176.out 1).trans rfl⟩ (fun hHeld => ?_)
      clear hK K
      refine norm_ (a' := ?_) ?_ ?_
      rotate_left
      ·show Act.put _ (some 66) _ = _
       simp only [Act.put, zT, z0, zS, i64_w, i32_w]
       rfl
      refine one_ (i := 43) (N := some 70) #[true, true, true, true, true, true, true, true, true, true, true, true, true, true, true, true, true, true, true, true, true, true, true, true, true, true, true, true, true, true, true, true, true, true, true, true, true, true, true, true, true, true, true, true, false, false, false] rfl rfl (one_of HT_.out (by kernel_rfl)) (by decide) (fun K hK => ?_)
      refine goes_ Try.func22 (by kernel_rfl) rfl #[.int .i64 a0_0, .int .i64 a2] (by rfl) rfl rfl (by (try simp only [List.map_toArray, List.map_cons, List.map_nil]); first | done | rfl | (simp only [List.length_drop, List.length_take]; rfl)) ?_
      with_reducible refine (reredosref06_New.calls a0_0 a2 t197 t198 _ A25.out).mono ?_
      rintro e w61 ⟨rfl, hb⟩
      refine ⟨_, rfl, ?_⟩
      have n0_ := am (bB (g := gb162) (o := .cells #[.int .i64 a0_0, .int .i64 a0_1] 23 (0, 0)) (by (with_reducible repeat (first | refine bN ?_ _ | refine bD ?_ | refine bA ?_ _)); exact BK162.out) hb)
      have n1_ := am (bB (g := gb163) (o := .cells #[.int .i64 a1_0, .int .i64 a1_1] 23 (0, 0)) (by (with_reducible repeat (first | refine bN ?_ _ | refine bD ?_ | refine bA ?_ _)); exact BK163.out) hb)
      have n2_ := am (bB (g := gb172) (o := .cells #[.int .i64 t169, .int .i64 t170] 26 (0, 0)) (by (with_reducible repeat (first | refine bN ?_ _ | refine bD ?_ | refine bA ?_ _)); exact BK172.out) hb)
      have n3_ := am (bB (g := gb176) (o := .cells #[.int .i64 t173, .int .i64 t174] 23 (0, 0)) (by (with_reducible repeat (first | refine bN ?_ _ | refine bD ?_ | refine bA ?_ _)); exact BK176.out) hb)
      have n4_ := am (below_step (by repeat (first | (with_reducible first | exact HB.out | apply lA | apply lN | apply lD | refine below_set ?_ GE162.out | refine below_set ?_ GE163.out | refine below_set ?_ GE172.out | refine below_set ?_ GE176.out) | exact HB.out)) hb)
      clear BK162
      clear BK163
      clear BK172
      clear BK176
      clear HB
      have BK162 := n0_
      have BK163 := n1_
      have BK172 := n2_
      have BK176 := n3_
      have HB := n4_
      clear n0_ n1_ n2_ n3_ n4_
      (try clear hb)
      (try clear hb2)
      (try clear hk)
      (try clear hi)
      refine hK.out _ _ ⟨(blk_cell BK162.out 0).trans rfl, (blk_cell BK162.out 1).trans rfl, (blk_cell BK163.out 0).trans rfl, (blk_cell BK163.out 1).trans rfl, (blk_cell BK172.out 0).trans rfl, (blk_cell BK172.out 1).trans rfl, (blk_cell BK176.out 0).trans rfl, (blk_cell BK176.out 1).trans rfl⟩ (fun hHeld => ?_)
      clear hK K
      refine norm_ (a' := ?_) ?_ ?_
      rotate_left
      ·show Act.put _ (some 70) _ = _
       simp only [Act.put, zT, z0, zS, i64_w, i32_w]
       rfl
      refine pure_ (i := 44) (N := some 71) (v := ?_) (a' := ?_) #[true, true, true, true, true, true, true, true, true, true, true, true, true, true, true, true, true, true, true, true, true, true, true, true, true, true, true, true, true, true, true, true, true, true, true, true, true, true, true, true, true, true, true, true, true, false, false] rfl rfl (any_of HT_.out (by kernel_rfl)) (fun _ _ _ h => h) (Or.inl ⟨by rfl, ?_⟩) ?_ ?_
      rotate_left
      ·intro w'
       go_simp
       with_reducible rfl
      rotate_left
      ·simp only [Act.put, zT, z0, zS, i64_w, i32_w]
       rfl
      refine pure_ (i := 45) (N := some 72) (v := ?_) (a' := ?_) #[true, true, true, true, true, true, true, true, true, true, true, true, true, true, true, true, true, true, true, true, true, true, true, true, true, true, true, true, true, true, true, true, true, true, true, true, true, true, true, true, true, true, true, true, true, true, false] rfl rfl (any_of HT_.out (by kernel_rfl)) (fun _ _ _ h => h) (Or.inl ⟨by rfl, ?_⟩) ?_ ?_
      rotate_left
      ·intro w'
       go_simp
       with_reducible rfl
      rotate_left
      ·simp only [Act.put, zT, z0, zS, i64_w, i32_w]
       rfl
      refine pure_ (i := 46) (N := some 6) (v := ?_) (a' := ?_) #[true, true, true, true, true, true, true, true, true, true, true, true, true, true, true, true, true, true, true, true, true, true, true, true, true, true, true, true, true, true, true, true, true, true, true, true, true, true, true, true, true, true, true, true, true, true, true] rfl rfl (any_of HT_.out (by kernel_rfl)) (fun _ _ _ h => h) (Or.inl ⟨by rfl, ?_⟩) ?_ ?_
      rotate_left
      ·intro w'
       go_simp
       with_reducible rfl
      rotate_left
      ·simp only [Act.put, zT, z0, zS, i64_w, i32_w]
       rfl
      refine done_ (done_of HT_.out (by kernel_rfl)) ?_
      try go_wp2
      go_ret
      exact ⟨by first | rfl | (simp [errW_none, errW_some] <;> rfl) | (simp [*, errW_none, errW_some] <;> rfl), by repeat (first | (with_reducible first | exact HB.out | apply lA | apply lN | apply lD | refine below_set ?_ GE162.out | refine below_set ?_ GE163.out | refine below_set ?_ GE172.out | refine below_set ?_ GE176.out) | exact HB.out)⟩
     ·rw [if_neg c22] at H
      exact absurd H (by simp)
    ·rw [if_neg c17] at H
     exact absurd H (by simp)
   ·rw [if_neg c16] at H
    exact absurd H (by simp)
  ·rw [if_neg c14] at H
   exact absurd H (by simp)
 ·replace c9 := Bool.eq_false_iff.mpr c9
  subst c9
  have H1 : (none) = some r := by rw [if_neg (show ¬ (false = true) by decide)] at H; exact H
  clear H
  have H := H1
  clear H1
  exact absurd H (by simp)

/-- What is left to show of reredoslaw06_BudgetTells: of numbers and lists alone. -/
def reredoslaw06_BudgetTells.Pure : Prop := ∀ (a0_0 : Int) (a0_1 : Int) (a1_0 : Int) (a1_1 : Int) (a2 : Int), ((Lit.int .i64 a0_0).wf = true) → ((Lit.int .i64 a0_1).wf = true) → ((Lit.int .i64 a1_0).wf = true) → ((Lit.int .i64 a1_1).wf = true) → ((Lit.int .i64 a2).wf = true) → ∃ k, reredoslaw06_BudgetTells.f k a0_0 a0_1 a1_0 a1_1 a2 = some true

end Go.Proofs.Ytphonhplgholmaa.P
