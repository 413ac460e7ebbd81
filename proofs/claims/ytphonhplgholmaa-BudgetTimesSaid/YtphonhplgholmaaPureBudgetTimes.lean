/- BudgetTimes: a budget so often is as together, one by one; no times, and of nothing, it is nothing. -/
import Derived.Test.YtphonhplgholmaaPx9
import Derived.Test.YtphonhplgholmaaGPBudget
namespace Go.Proofs.Ytphonhplgholmaa.Pure
open Go.RowKit Go.Proofs.Ytphonhplgholmaa Go.Proofs.Ytphonhplgholmaa.P Go.Proofs.YtphonhplgholmaaW.PrintWords Go.Proofs.YtphonhplgholmaaW.PrintMore
theorem sum_two (a b c d : Int) (h1 : 0 ≤ a ∧ a ≤ 1099511627776) (h2 : 0 ≤ b ∧ b ≤ 1099511627776) : budget_Sum.f [(⟨a, b⟩ : S26), ⟨c, d⟩] = some (bd (a + bd c), bd (b + bd d)) := by
  unfold budget_Sum.f sumR
  rw [if_pos (by simp)]
  simp only [List.foldl_cons, List.foldl_nil, sumStep]
  rw [Int.zero_add, Int.zero_add, bd_id (a := a) h1.1 h1.2, bd_id (a := b) h2.1 h2.2, bd_id (a := a) h1.1 h1.2, bd_id (a := b) h2.1 h2.2]
theorem step_times (c i : Int) (hc : 0 ≤ c) (hc2 : c ≤ 1099511627776) (hi : 0 ≤ i) : bd (min (c * i) 1099511627776 + bd c) = min (c * (i + 1)) 1099511627776 := by
  rw [bd_id hc hc2, bd_eq, Int.mul_add, Int.mul_one]
  have : 0 ≤ c * i := Int.mul_nonneg hc hi
  generalize c * i = p at *
  omega
theorem times_l (c e n : Int) (hc : 0 ≤ c) (hc2 : c ≤ 1099511627776) (he : 0 ≤ e) (he2 : e ≤ 1099511627776) (hn : 0 ≤ n) (hn2 : n ≤ 255) (d : Nat) : ∀ (k : Nat) (i : Int), d < k → 0 ≤ i → i + d = n →
    reredoslaw06_BudgetTimes.l0 k n true i c e (min (c * i) 1099511627776) (min (e * i) 1099511627776) = some true := by
  have e0 : ∀ m : Int, 0 ≤ m → m ≤ 255 → ∀ x : Int, 0 ≤ x → x ≤ 1099511627776 → bprod x m = min (x * m) 1099511627776 := fun m h1 h2 x h3 h4 => by
    rw [bprod_eq, bd_id h3 h4, bd_id h1 (by omega)]
  have en : ∀ x : Int, bprod x (-1) = 0 := fun x => by
    have hx := bd_range x
    rw [bprod_eq, bd_neg (a := -1) (by omega), Int.mul_zero]; omega
  induction d with
  | zero =>
    intro k i hk hi0 hi
    obtain ⟨k, rfl⟩ : ∃ m, k = m + 1 := ⟨k - 1, by omega⟩
    obtain rfl : i = n := by omega
    simp only [reredoslaw06_BudgetTimes.l0]
    rw [wrap_id (by omega) (by omega), if_neg (by omega)]
    simp only [budget_Times.f, Option.bind_some, if_true]
    rw [e0 i hn hn2 c hc hc2, e0 i hn hn2 e he he2, e0 0 (by omega) (by omega) c hc hc2, e0 0 (by omega) (by omega) e he he2, e0 1 (by omega) (by omega) c hc hc2, e0 1 (by omega) (by omega) e he he2, en, en]
    have m1 : min (c * 1) 1099511627776 = c := by omega
    have m2 : min (e * 1) 1099511627776 = e := by omega
    have m3 : min (c * 0) 1099511627776 = 0 := by omega
    have m4 : min (e * 0) 1099511627776 = 0 := by omega
    rw [m1, m2, m3, m4]
    simp
  | succ d ih =>
    intro k i hk hi0 hi
    obtain ⟨k, rfl⟩ : ∃ m, k = m + 1 := ⟨k - 1, by omega⟩
    simp only [reredoslaw06_BudgetTimes.l0]
    have p1 : 0 ≤ c * i := Int.mul_nonneg hc hi0
    have p2 : 0 ≤ e * i := Int.mul_nonneg he hi0
    rw [wrap_id (a := n) (by omega) (by omega), if_pos (by omega), sum_two _ _ _ _ (by omega) (by omega)]
    simp only [Option.bind_some]
    rw [step_times c i hc hc2 hi0, step_times e i he he2 hi0, wrap_id (by omega) (by omega)]
    exact ih k (i + 1) (by omega) (by omega) (by omega)
theorem BudgetTimes : reredoslaw06_BudgetTimes.Pure := by
  intro a b n w0 w1 w2
  have h2 := wf_u8 w2
  refine ⟨300, ?_⟩
  unfold reredoslaw06_BudgetTimes.f
  rw [shown_true, new_eq]
  simp only [Option.bind_some]
  have r1 := bd_range (wrap64 a)
  have r2 := bd_range (wrap64 b)
  have := times_l (bd (wrap64 a)) (bd (wrap64 b)) n r1.1 r1.2 r2.1 r2.2 h2.1 h2.2 n.toNat 300 0 (by omega) (by omega) (by omega)
  rw [Int.mul_zero, Int.mul_zero] at this
  exact this
end Go.Proofs.Ytphonhplgholmaa.Pure
