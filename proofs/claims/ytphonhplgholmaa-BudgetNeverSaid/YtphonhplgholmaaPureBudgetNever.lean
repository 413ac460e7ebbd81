/- BudgetNever: what is left is never below 0 nor more than there was; what a budget can pay, one with more can, too. -/
import Derived.Test.YtphonhplgholmaaPx4
import Derived.Test.YtphonhplgholmaaGPBudget
namespace Go.Proofs.Ytphonhplgholmaa.Pure
open Go.RowKit Go.Proofs.Ytphonhplgholmaa Go.Proofs.Ytphonhplgholmaa.P Go.Proofs.YtphonhplgholmaaW.PrintWords Go.Proofs.YtphonhplgholmaaW.PrintMore
theorem BudgetNever : reredoslaw06_BudgetNever.Pure := by
  intro a0 a1 b0 b1 m w0 w1 w2 w3 w4
  have h2 := wf_i64 w2
  have h3 := wf_i64 w3
  have h4 := wf_u32 w4
  have r0 := bd_range a0
  have r1 := bd_range a1
  unfold reredoslaw06_BudgetNever.f
  rw [shown_true, new_eq]
  simp only [Option.bind_some, reredoslaw06_made.f, budget_Budget_Pay.f, if_true]
  rw [wrap_id (a := m) (by omega) (by omega), wrap_id (a := bd a0 + m) (by omega) (by omega), wrap_id (a := bd a1 + m) (by omega) (by omega)]
  by_cases hn : b0 < 0 ∨ b1 < 0
  · have e : payR (bd a0) (bd a1) b0 b1 = (0, 0, 1) := by unfold payR; rw [if_pos hn]
    rw [e]
    simp only []
    rw [if_neg (by decide)]
    by_cases hb : b0 < 0
    · simp [hb]
    · simp [hb]; omega
  · by_cases hc : canB (bd a0) (bd a1) b0 b1 = true
    · have hc' := hc
      unfold canB at hc'
      simp only [decide_eq_true_eq] at hc'
      have e : payR (bd a0) (bd a1) b0 b1 = (bd a0 - b0, bd a1 - b1, 0) := by
        unfold payR; rw [if_neg hn, if_pos hc, wrap_id (by omega) (by omega), wrap_id (by omega) (by omega)]
      have hc2 : canB (bd a0 + m) (bd a1 + m) b0 b1 = true := by unfold canB; simp only [decide_eq_true_eq]; omega
      have e2 : (payR (bd a0 + m) (bd a1 + m) b0 b1).2.2 = 0 := by unfold payR; rw [if_neg hn, if_pos hc2]
      have e3 : budget_Budget_Can.f (bd a0 + m) (bd a1 + m) b0 b1 = some true := by
        unfold budget_Budget_Can.f
        rw [if_pos (by omega), if_pos (by omega), if_pos (by omega)]
        simp; omega
      rw [e, e2, e3]
      simp only [Option.bind_some]
      rw [if_pos trivial, if_pos (by omega), if_pos (by omega), if_pos (by omega), if_pos (by omega), wrap_id (by omega) (by omega), if_pos (by omega), if_pos trivial]
    · have e : payR (bd a0) (bd a1) b0 b1 = (0, 0, 9) := by
        unfold payR; rw [if_neg hn, if_neg hc]
      rw [e]
      simp only []
      rw [if_neg (by decide), if_pos (by decide)]
      by_cases hb : b0 < 0
      · omega
      · rw [if_neg hb]; simp; omega
end Go.Proofs.Ytphonhplgholmaa.Pure
