/- What package budget's functions compute, in plain words. -/
import Derived.Test.YtphonhplgholmaaPx4
import Derived.Test.YtphonhplgholmaaGNum
namespace Go.Proofs.Ytphonhplgholmaa.Pure
open Go.RowKit Go.Proofs.Ytphonhplgholmaa Go.Proofs.Ytphonhplgholmaa.P Go.Proofs.YtphonhplgholmaaW.PrintWords Go.Proofs.YtphonhplgholmaaW.PrintMore
theorem shown_true : reredoslaw06_shown.f = some true := by decide +kernel
theorem new_eq (a b : Int) : budget_New.f a b = some (bd a, bd b) := rfl
theorem bd_id {a : Int} (h : 0 ≤ a) (h2 : a ≤ 1099511627776) : bd a = a := by unfold bd mn mx; (repeat' split) <;> omega

theorem bd_neg {a : Int} (h : a ≤ 0) : bd a = 0 := by unfold bd mn mx; (repeat' split) <;> omega
theorem bd_big {a : Int} (h : 1099511627776 ≤ a) : bd a = 1099511627776 := by unfold bd mn mx; (repeat' split) <;> omega
theorem bd_eq (a : Int) : bd a = max 0 (min a 1099511627776) := by unfold bd mn mx; (repeat' split) <;> omega
theorem bprod_eq (x y : Int) : bprod x y = min (bd x * bd y) 1099511627776 := by
  have hx := bd_range x
  have hy := bd_range y
  unfold bprod
  generalize bd x = a at *
  generalize bd y = b at *
  by_cases h0 : a = 0
  · subst h0
    rw [if_neg (by omega), Int.zero_mul, wrap_id (by decide) (by decide)]
    omega
  · by_cases h : 1099511627776 / a < b
    · rw [if_pos ⟨by omega, h⟩]
      have := (Int.ediv_lt_iff_lt_mul (by omega)).1 h
      rw [Int.mul_comm] at this
      omega
    · rw [if_neg (fun hh => h hh.2)]
      have h1 : b ≤ 1099511627776 / a := by omega
      have h2 := (Int.le_ediv_iff_mul_le (by omega)).1 h1
      rw [Int.mul_comm] at h2
      have h3 : 0 ≤ a * b := Int.mul_nonneg hx.1 hy.1
      rw [wrap_id (by omega) (by omega)]
      omega
end Go.Proofs.Ytphonhplgholmaa.Pure
