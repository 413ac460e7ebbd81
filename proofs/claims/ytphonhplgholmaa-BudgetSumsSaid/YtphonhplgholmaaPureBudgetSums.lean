/- BudgetSums: any budgets together are the document's. -/
import Derived.Test.YtphonhplgholmaaPx7
import Derived.Test.YtphonhplgholmaaGPBudget
namespace Go.Proofs.Ytphonhplgholmaa.Pure
open Go.RowKit Go.Proofs.Ytphonhplgholmaa Go.Proofs.Ytphonhplgholmaa.P Go.Proofs.YtphonhplgholmaaW.PrintWords Go.Proofs.YtphonhplgholmaaW.PrintMore
theorem ref_bounded2 (a : Int) : reredosref06_bounded.f a = some (bd a) := by
  unfold reredosref06_bounded.f
  by_cases h : a < 0
  · rw [if_pos h, bd_neg (by omega)]
  · by_cases h2 : a > 1099511627776
    · rw [if_neg h, if_pos h2, bd_big (by omega)]
    · rw [if_neg h, if_neg h2, bd_id (by omega) (by omega)]
def conv (x : S23) : S26 := ⟨x.f0, x.f1⟩
theorem take_map_snoc (l : List S23) (k : Nat) (h : k < l.length) : (l.take (k + 1)).map conv = (l.take k).map conv ++ [conv (rd_T23 l (k : Int))] := by
  rw [List.take_succ_eq_append_getElem h, List.map_append]
  simp [rd_T23, List.getD_eq_getElem?_getD, h]
theorem ref_add (a b c d : Int) (h1 : 0 ≤ a ∧ a ≤ 1099511627776) (h2 : 0 ≤ b ∧ b ≤ 1099511627776) : reredosref06_Add.f a b c d = some (bd (a + bd c), bd (b + bd d)) := by
  have r1 := bd_range c
  have r2 := bd_range d
  unfold reredosref06_Add.f
  simp only [ref_bounded2, Option.bind_some]
  rw [wrap_id (by omega) (by omega), wrap_id (by omega) (by omega)]
theorem ref_sum_l (l : List S23) (hl : l.length ≤ 200) (d : Nat) : ∀ (k i : Nat), d < k → i + d = l.length →
    reredosref06_Sum.l0 k l (i : Int) (sumR ((l.take i).map conv)).1 (sumR ((l.take i).map conv)).2 = some (sumR (l.map conv)) := by
  induction d with
  | zero =>
    intro k i hk hi
    obtain ⟨k, rfl⟩ : ∃ m, k = m + 1 := ⟨k - 1, by omega⟩
    simp only [reredosref06_Sum.l0]
    rw [if_neg (by omega), List.take_of_length_le (by omega)]
  | succ d ih =>
    intro k i hk hi
    obtain ⟨k, rfl⟩ : ∃ m, k = m + 1 := ⟨k - 1, by omega⟩
    have hs := sumR_range ((l.take i).map conv)
    simp only [reredosref06_Sum.l0]
    rw [if_pos (by omega), if_pos (by omega), ref_add _ _ _ _ hs.1 hs.2]
    simp only [Option.bind_some]
    rw [wrap_id (by omega) (by omega), ← ih k (i + 1) (by omega) (by omega), take_map_snoc l i (by omega)]
    unfold sumR
    rw [List.foldl_append]
    rfl
theorem sums_l (l : List S23) (hl : l.length ≤ 200) (d : Nat) : ∀ (k i : Nat), d + 300 < k → i + d = l.length →
    reredoslaw06_BudgetSums.l0 k l true ((l.take i).map conv) (i : Int) = some true := by
  induction d with
  | zero =>
    intro k i hk hi
    obtain ⟨k, rfl⟩ : ∃ m, k = m + 1 := ⟨k - 1, by omega⟩
    simp only [reredoslaw06_BudgetSums.l0]
    have e : reredosref06_Sum.f k l = some (sumR (l.map conv)) := by
      have := ref_sum_l l hl l.length k 0 (by omega) (by omega)
      simpa [reredosref06_Sum.f, sumR] using this
    rw [if_neg (by omega), List.take_of_length_le (by omega), e]
    have e2 : budget_Sum.f (l.map conv) = some (sumR (l.map conv)) := by
      unfold budget_Sum.f; rw [if_pos (by rw [List.length_map]; omega)]
    rw [e2]
    simp [reredoslaw06_real.f]
  | succ d ih =>
    intro k i hk hi
    obtain ⟨k, rfl⟩ : ∃ m, k = m + 1 := ⟨k - 1, by omega⟩
    simp only [reredoslaw06_BudgetSums.l0]
    rw [if_pos (by omega), if_pos (by omega)]
    simp only [reredoslaw06_made.f, Option.bind_some]
    rw [if_pos (by rw [List.length_map, List.length_take]; omega), wrap_id (by omega) (by omega), ← ih k (i + 1) (by omega) (by omega), take_map_snoc l i (by omega)]
    rfl
theorem BudgetSums : reredoslaw06_BudgetSums.Pure := by
  intro l _
  refine ⟨600, ?_⟩
  unfold reredoslaw06_BudgetSums.f
  rw [shown_true]
  simp only [Option.bind_some]
  by_cases h : (l.length : Int) > 200
  · rw [if_pos h]
  · rw [if_neg h]
    exact sums_l l (by omega) l.length 600 0 (by omega) (by omega)
end Go.Proofs.Ytphonhplgholmaa.Pure
