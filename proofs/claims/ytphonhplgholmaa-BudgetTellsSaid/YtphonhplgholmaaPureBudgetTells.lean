/- BudgetTells: whether one budget can pay another, what is left, a budget so often, and any numbers as one, are the document's. -/
import Derived.Test.YtphonhplgholmaaPx6
import Derived.Test.YtphonhplgholmaaGPBudget
namespace Go.Proofs.Ytphonhplgholmaa.Pure
open Go.RowKit Go.Proofs.Ytphonhplgholmaa Go.Proofs.Ytphonhplgholmaa.P Go.Proofs.YtphonhplgholmaaW.PrintWords Go.Proofs.YtphonhplgholmaaW.PrintMore
theorem ref_bounded (a : Int) : reredosref06_bounded.f a = some (bd a) := by
  unfold reredosref06_bounded.f
  by_cases h : a < 0
  · rw [if_pos h, bd_neg (by omega)]
  · by_cases h2 : a > 1099511627776
    · rw [if_neg h, if_pos h2, bd_big (by omega)]
    · rw [if_neg h, if_neg h2, bd_id (by omega) (by omega)]
theorem half_odd (n x y : Int) (hn : 0 ≤ n) (hn2 : n ≤ 1099511627776) (hx : 0 ≤ x) (hx2 : x ≤ 1099511627776) (hy : 0 ≤ y) :
    min (bd (n + x) + bd (2 * x) * y) 1099511627776 = min (n + x * (2 * y + 1)) 1099511627776 := by
  have e : x * (2 * y + 1) = 2 * (x * y) + x := by rw [Int.mul_add, Int.mul_one, ← Int.mul_assoc, Int.mul_comm x 2, Int.mul_assoc]
  rw [e]
  have hp : 0 ≤ x * y := Int.mul_nonneg hx hy
  rw [bd_eq (n + x), bd_eq (2 * x)]
  by_cases h2 : 2 * x ≤ 1099511627776
  · have e2 : max 0 (min (2 * x) 1099511627776) = 2 * x := by omega
    rw [e2, Int.mul_assoc]
    generalize x * y = p at *
    omega
  · have e2 : max 0 (min (2 * x) 1099511627776) = 1099511627776 := by omega
    rw [e2]
    by_cases hy0 : y = 0
    · subst hy0
      rw [Int.mul_zero, Int.mul_zero]
      omega
    · have h3 : x ≤ x * y := by
        have := Int.mul_le_mul_of_nonneg_left (show 1 ≤ y by omega) hx
        rwa [Int.mul_one] at this
      have h4 : 0 ≤ max 0 (min (n + x) 1099511627776) := by omega
      generalize x * y = p at *
      generalize max 0 (min (n + x) 1099511627776) = q at *
      omega
theorem half_even (n x y : Int) (hn : 0 ≤ n) (hn2 : n ≤ 1099511627776) (hx : 0 ≤ x) (hx2 : x ≤ 1099511627776) (hy : 0 ≤ y) :
    min (n + bd (2 * x) * y) 1099511627776 = min (n + x * (2 * y)) 1099511627776 := by
  have e : x * (2 * y) = 2 * (x * y) := by rw [← Int.mul_assoc, Int.mul_comm x 2, Int.mul_assoc]
  rw [e]
  have hp : 0 ≤ x * y := Int.mul_nonneg hx hy
  rw [bd_eq (2 * x)]
  by_cases h2 : 2 * x ≤ 1099511627776
  · have e2 : max 0 (min (2 * x) 1099511627776) = 2 * x := by omega
    rw [e2, Int.mul_assoc]
  · have e2 : max 0 (min (2 * x) 1099511627776) = 1099511627776 := by omega
    rw [e2]
    by_cases hy0 : y = 0
    · subst hy0
      rw [Int.mul_zero, Int.mul_zero]
      omega
    · have h3 : x ≤ x * y := by
        have := Int.mul_le_mul_of_nonneg_left (show 1 ≤ y by omega) hx
        rwa [Int.mul_one] at this
      generalize x * y = p at *
      omega
theorem ref_times_l (d : Nat) : ∀ (k : Nat) (x y n : Int), d < k → 0 ≤ n → n ≤ 1099511627776 → 0 ≤ x → x ≤ 1099511627776 → 0 ≤ y → y < 2 ^ d → y ≤ 1099511627776 →
    reredosref06_times.l0 k x y n = some (min (n + x * y) 1099511627776) := by
  induction d with
  | zero =>
    intro k x y n hk hn hn2 hx hx2 hy hyd hy2
    obtain ⟨k, rfl⟩ : ∃ m, k = m + 1 := ⟨k - 1, by omega⟩
    have : y = 0 := by omega
    subst this
    simp only [reredosref06_times.l0]
    rw [if_neg (by omega), Int.mul_zero]
    congr 1; omega
  | succ d ih =>
    intro k x y n hk hn hn2 hx hx2 hy hyd hy2
    obtain ⟨k, rfl⟩ : ∃ m, k = m + 1 := ⟨k - 1, by omega⟩
    simp only [reredosref06_times.l0]
    have hyd' : y < 2 * 2 ^ d := by rw [Int.pow_succ] at hyd; omega
    by_cases h0 : y > 0
    · rw [if_pos h0, tmod_nonneg hy, tdiv_nonneg hy, wrap_id (a := y / 2) (by omega) (by omega), wrap_id (a := n + x) (by omega) (by omega), wrap_id (a := 2 * x) (by omega) (by omega), ref_bounded, ref_bounded]
      have r1 := bd_range (n + x)
      have r2 := bd_range (2 * x)
      simp only [Option.bind_some]
      by_cases hodd : y % 2 = 1
      · rw [if_pos hodd, ih k _ _ _ (by omega) r1.1 r1.2 r2.1 r2.2 (by omega) (by omega) (by omega), half_odd n x (y / 2) hn hn2 hx hx2 (by omega)]
        rw [show 2 * (y / 2) + 1 = y from by omega]
      · rw [if_neg hodd, ih k _ _ _ (by omega) hn hn2 r2.1 r2.2 (by omega) (by omega) (by omega), half_even n x (y / 2) hn hn2 hx hx2 (by omega)]
        rw [show 2 * (y / 2) = y from by omega]
    · have : y = 0 := by omega
      subst this
      rw [if_neg h0, Int.mul_zero]
      congr 1; omega
theorem ref_times (x y : Int) : reredosref06_times.f 50 x y = some (bprod x y) := by
  have h1 := bd_range x
  have h2 := bd_range y
  unfold reredosref06_times.f
  rw [ref_bounded, ref_bounded]
  simp only [Option.bind_some]
  rw [ref_times_l 41 50 _ _ 0 (by decide) (by decide) (by decide) h1.1 h1.2 h2.1 (by omega) h2.2, bprod_eq, Int.zero_add]
theorem ref_can (a b c d : Int) : reredosref06_Can.f a b c d = some (canB a b c d) := by
  unfold reredosref06_Can.f canB
  by_cases h1 : c < 0
  · rw [if_pos h1]; congr 1; simp; omega
  · rw [if_neg h1]
    by_cases h2 : d < 0
    · rw [if_pos h2]; congr 1; simp; omega
    · rw [if_neg h2]
      by_cases h3 : a ≥ c
      · rw [if_pos h3]; congr 1; simp only [decide_eq_decide]; omega
      · rw [if_neg h3]; congr 1; simp; omega
theorem can_eq (a b c d : Int) : budget_Budget_Can.f a b c d = some (canB a b c d) := by
  unfold budget_Budget_Can.f canB
  by_cases h1 : c ≥ 0
  · rw [if_pos h1]
    by_cases h2 : d ≥ 0
    · rw [if_pos h2]
      by_cases h3 : c ≤ a
      · rw [if_pos h3]; congr 1; simp only [decide_eq_decide]; omega
      · rw [if_neg h3]; congr 1; simp; omega
    · rw [if_neg h2]; congr 1; simp; omega
  · rw [if_neg h1]; congr 1; simp; omega
theorem ref_pay (a b c d : Int) (k : Nat) : reredosref06_Pay.f (k + 1) a b c d = some (payR a b c d) := by
  unfold reredosref06_Pay.f payR
  by_cases h1 : c < 0
  · rw [if_pos h1, if_pos (.inl h1)]
    simp [reredosref06_Pay.j0]
  · rw [if_neg h1]
    simp only [reredosref06_Pay.j0]
    by_cases h2 : d < 0
    · rw [if_pos (by simpa using h2), if_pos (.inr h2)]
    · rw [if_neg (by simpa using h2), if_neg (by omega), ref_can]
      simp only [Option.bind_some]
      by_cases h3 : canB a b c d = true
      · rw [if_pos h3, if_pos h3]
      · rw [if_neg h3, if_neg h3]

theorem BudgetTells : reredoslaw06_BudgetTells.Pure := by
  intro a0 a1 b0 b1 m w0 w1 w2 w3 w4
  refine ⟨50, ?_⟩
  unfold reredoslaw06_BudgetTells.f
  rw [shown_true, ref_pay a0 a1 b0 b1 49]
  simp only [Option.bind_some, reredoslaw06_made.f, reredoslaw06_real.f, budget_Budget_Pay.f, if_true, can_eq, ref_can, beq_self_eq_true, Bool.and_self, budget_Times.f, reredosref06_Times.f, ref_times, new_eq, reredosref06_New.f, ref_bounded]
end Go.Proofs.Ytphonhplgholmaa.Pure
