/- BudgetParts: paid one by one it is as paid together. -/
import Derived.Test.YtphonhplgholmaaPx8
import Derived.Test.YtphonhplgholmaaGPBudget
namespace Go.Proofs.Ytphonhplgholmaa.Pure
open Go.RowKit Go.Proofs.Ytphonhplgholmaa Go.Proofs.Ytphonhplgholmaa.P Go.Proofs.YtphonhplgholmaaW.PrintWords Go.Proofs.YtphonhplgholmaaW.PrintMore
theorem sum_two (a b c d : Int) (h1 : 0 ≤ a ∧ a ≤ 1099511627776) (h2 : 0 ≤ b ∧ b ≤ 1099511627776) : budget_Sum.f [(⟨a, b⟩ : S26), ⟨c, d⟩] = some (bd (a + bd c), bd (b + bd d)) := by
  unfold budget_Sum.f sumR
  rw [if_pos (by simp)]
  simp only [List.foldl_cons, List.foldl_nil, sumStep]
  rw [Int.zero_add, Int.zero_add, bd_id (a := a) h1.1 h1.2, bd_id (a := b) h2.1 h2.2, bd_id (a := a) h1.1 h1.2, bd_id (a := b) h2.1 h2.2]
theorem can_eq (a b c d : Int) : budget_Budget_Can.f a b c d = some (canB a b c d) := by
  unfold budget_Budget_Can.f canB
  by_cases h1 : c ≥ 0
  · rw [if_pos h1]
    by_cases h2 : d ≥ 0
    · rw [if_pos h2]
      by_cases h3 : c ≤ a
      · rw [if_pos h3]; congr 1; simp only [decide_eq_decide]; omega
      · rw [if_neg h3]; congr 1; simp; omega
    · rw [if_neg h2]; congr 1; simp; omega
  · rw [if_neg h1]; congr 1; simp; omega
/-- Where the loop stands: what was paid together (s, t), what is left (x, y), and whether all could be paid. -/
def Stands (p q i s t : Int) (fine : Bool) (x y : Int) : Prop :=
  0 ≤ s ∧ 0 ≤ t ∧ s ≤ 65535 * i ∧ t ≤ 65535 * i ∧ (fine = true → s ≤ p ∧ t ≤ q ∧ x = p - s ∧ y = q - t) ∧ (fine = false → p < s ∨ q < t)
theorem parts_l (p q : Int) (hp : 0 ≤ p ∧ p ≤ 1099511627776) (hq : 0 ≤ q ∧ q ≤ 1099511627776) (l : List Int) (hl : l.length ≤ 200) (hw : ∀ e ∈ l, (Lit.int .u16 e).wf = true) (d : Nat) : ∀ (k i : Nat) (fine : Bool) (x y s t : Int), d < k → i + d = l.length →
    Stands p q i s t fine x y → reredoslaw06_BudgetParts.l0 k l true fine (i : Int) p q x y s t = some true := by
  induction d with
  | zero =>
    intro k i fine x y s t hk hi hst
    obtain ⟨k, rfl⟩ : ∃ m, k = m + 1 := ⟨k - 1, by omega⟩
    obtain ⟨h1, h2, h3, h4, h5, h6⟩ := hst
    simp only [reredoslaw06_BudgetParts.l0]
    rw [if_neg (by omega)]
    simp only [budget_Budget_Pay.f, can_eq, Option.bind_some, if_true]
    cases fine with
    | true =>
      obtain ⟨h7, h8, rfl, rfl⟩ := h5 rfl
      have hc : canB p q s t = true := by unfold canB; simp only [decide_eq_true_eq]; omega
      have e : payR p q s t = (p - s, q - t, 0) := by
        unfold payR; rw [if_neg (by omega), if_pos hc, wrap_id (by omega) (by omega), wrap_id (by omega) (by omega)]
      rw [e, hc]
      simp
    | false =>
      have h7 := h6 rfl
      have hc : canB p q s t = false := by unfold canB; simp only [decide_eq_false_iff_not]; omega
      have e : payR p q s t = (0, 0, 9) := by
        unfold payR; rw [if_neg (by omega), if_neg (by rw [hc]; decide)]
      rw [e, hc]
      simp
  | succ d ih =>
    intro k i fine x y s t hk hi hst
    obtain ⟨k, rfl⟩ : ∃ m, k = m + 1 := ⟨k - 1, by omega⟩
    obtain ⟨h1, h2, h3, h4, h5, h6⟩ := hst
    have hc0 : 0 ≤ rd l (i : Int) ∧ rd l (i : Int) ≤ 65535 := by
      have hi' : i < l.length := by omega
      have : rd l (i : Int) = l[i] := by simp [rd, List.getD_eq_getElem?_getD, hi']
      rw [this]
      exact wf_u16 (hw _ (List.getElem_mem hi'))
    simp only [reredoslaw06_BudgetParts.l0]
    rw [if_pos (by omega), if_pos (by omega)]
    generalize rd l (i : Int) = c at hc0
    rw [wrap_id (a := c) (by omega) (by omega), tdiv_nonneg hc0.1, wrap_id (a := c / 3) (by omega) (by omega), sum_two _ _ _ _ (by omega) (by omega), wrap_id (a := (i : Int) + 1) (by omega) (by omega)]
    simp only [Option.bind_some, budget_Budget_Pay.f]
    rw [bd_id (a := c) (by omega) (by omega), bd_id (a := c / 3) (by omega) (by omega), bd_id (a := s + c) (by omega) (by omega), bd_id (a := t + c / 3) (by omega) (by omega)]
    cases fine with
    | false =>
      rw [if_neg (by decide)]
      refine ih k (i + 1) _ _ _ _ _ (by omega) (by omega) ⟨by omega, by omega, by omega, by omega, (fun h => by cases h), (fun _ => ?_)⟩
      have := h6 rfl
      omega
    | true =>
      rw [if_pos rfl]
      obtain ⟨h7, h8, rfl, rfl⟩ := h5 rfl
      by_cases hcan : canB (p - s) (q - t) c (c / 3) = true
      · have e : payR (p - s) (q - t) c (c / 3) = (p - s - c, q - t - c / 3, 0) := by
          unfold canB at hcan
          simp only [decide_eq_true_eq] at hcan
          unfold payR; rw [if_neg (by omega), if_pos (by unfold canB; simp only [decide_eq_true_eq]; omega), wrap_id (by omega) (by omega), wrap_id (by omega) (by omega)]
        rw [e]
        simp only []
        rw [if_pos trivial]
        unfold canB at hcan
        simp only [decide_eq_true_eq] at hcan
        refine ih k (i + 1) _ _ _ _ _ (by omega) (by omega) ⟨by omega, by omega, by omega, by omega, (fun _ => ⟨by omega, by omega, by omega, by omega⟩), (fun h => by simp at h)⟩
      · have e : payR (p - s) (q - t) c (c / 3) = (0, 0, 9) := by
          unfold payR; rw [if_neg (by omega), if_neg hcan]
        rw [e]
        simp only []
        rw [if_neg (by decide)]
        unfold canB at hcan
        simp only [decide_eq_true_eq] at hcan
        refine ih k (i + 1) _ _ _ _ _ (by omega) (by omega) ⟨by omega, by omega, by omega, by omega, (fun h => by simp at h), (fun _ => by omega)⟩
theorem BudgetParts : reredoslaw06_BudgetParts.Pure := by
  intro a b l w0 w1 hl
  have h0 := wf_u32 w0
  have h1 := wf_u32 w1
  obtain ⟨K, hK⟩ : ∃ K : Nat, 250 < K := ⟨300, by decide⟩
  refine ⟨K, ?_⟩
  unfold reredoslaw06_BudgetParts.f
  rw [shown_true, new_eq]
  simp only [Option.bind_some]
  by_cases h : (l.length : Int) > 200
  · rw [if_pos h]
  · rw [if_neg h]
    have r1 := bd_range (wrap64 a)
    have r2 := bd_range (wrap64 b)
    exact parts_l _ _ r1 r2 l (by omega) hl.2 l.length K 0 true _ _ 0 0 (by omega) (by omega) ⟨by omega, by omega, by omega, by omega, (fun _ => ⟨by omega, by omega, by omega, by omega⟩), (fun h => by cases h)⟩
end Go.Proofs.Ytphonhplgholmaa.Pure
