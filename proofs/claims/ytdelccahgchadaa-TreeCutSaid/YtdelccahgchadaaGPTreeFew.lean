/- The document's bound on a list of nodes: it tells something, and true only of 80 nodes at most. -/
import Derived.Test.YtdelccahgchadaaGPTree6
import Derived.Test.YtdelccahgchadaaPx12
namespace Go.Proofs.Ytdelccahgchadaa
open Go.RowKit Go.Lib Go.Proofs.Ytdelccahgchadaa.P Go.Proofs.YtdelccahgchadaaW.PrintWords Go.Proofs.YtdelccahgchadaaW.PrintMore
set_option linter.unusedVariables false
theorem Few_l1 (x : List Nd) (i : Nat) (hi : i < x.length) (hn : (rd_T25 x (i : Int)).f4.length ≤ 120) : ∀ (m j k : Nat), (rd_T25 x (i : Int)).f4.length - j < m → m ≤ k → j ≤ (rd_T25 x (i : Int)).f4.length → reredosref08_Few.l1 k x (i : Int) (j : Int) = some false ∨ ∃ k', k ≤ k' + m ∧ reredosref08_Few.l1 k x (i : Int) (j : Int) = reredosref08_Few.l0 k' x (wrap64 ((i : Int) + 1)) := by
  intro m
  induction m with
  | zero => intro j k h; omega
  | succ m ih =>
    intro j k h hk hj
    obtain ⟨k, rfl⟩ : ∃ q, k = q + 1 := ⟨k - 1, by omega⟩
    have e : reredosref08_Few.l1 (k + 1) x (i : Int) (j : Int) = if 0 ≤ (i : Int) then (if (i : Int) < (x.length : Int) then (if (j : Int) < (((rd_T25 x (i : Int)).f4).length : Int) then (if 0 ≤ (j : Int) then (if ((rdOf ByteArray.empty ((rd_T25 x (i : Int)).f4) (j : Int)).size : Int) > 120 then (some false) else (reredosref08_Few.l1 k x (i : Int) (wrap64 ((j : Int) + 1)))) else (none)) else (reredosref08_Few.l0 k x (wrap64 ((i : Int) + 1)))) else (none)) else (none) := by rw [reredosref08_Few.l1]
    rw [e, if_pos (by omega), if_pos (by omega)]
    by_cases hlt : (j : Int) < (((rd_T25 x (i : Int)).f4).length : Int)
    · rw [if_pos hlt, if_pos (by omega)]
      by_cases hs : ((rdOf ByteArray.empty ((rd_T25 x (i : Int)).f4) (j : Int)).size : Int) > 120
      · left; rw [if_pos hs]
      · rw [if_neg hs]
        have hi2 := ih (j + 1) k (by omega) (by omega) (by omega)
        have hw : wrap64 ((j : Int) + 1) = ((j + 1 : Nat) : Int) := by rw [wrap_id (by omega) (by omega)]; omega
        rw [hw]
        rcases hi2 with h1 | ⟨k', h1, h2⟩
        · exact .inl h1
        · exact .inr ⟨k', by omega, h2⟩
    · rw [if_neg hlt]
      exact .inr ⟨k, by omega, rfl⟩
theorem Few_l0 (x : List Nd) (hx : x.length ≤ 9223372036854775807) : ∀ (d i k : Nat), 81 - i ≤ d → i ≤ x.length → 200 * d + 200 ≤ k → ∃ b, reredosref08_Few.l0 k x (i : Int) = some b ∧ (b = true → x.length ≤ 80) := by
  intro d
  induction d with
  | zero =>
    intro i k hd hi hk
    obtain ⟨k, rfl⟩ : ∃ q, k = q + 2 := ⟨k - 2, by omega⟩
    have h81 : decide ((i : Int) < 81) = false := decide_eq_false (by omega)
    rw [reredosref08_Few.l0]
    by_cases hlt : (i : Int) < (x.length : Int)
    · rw [if_pos hlt, h81, reredosref08_Few.j1, if_neg (by decide)]
      exact ⟨_, rfl, fun h => by have := of_decide_eq_true h; omega⟩
    · rw [if_neg hlt, reredosref08_Few.j1, if_neg (by decide)]
      exact ⟨_, rfl, fun h => by have := of_decide_eq_true h; omega⟩
  | succ d ih =>
    intro i k hd hi hk
    obtain ⟨k, rfl⟩ : ∃ q, k = q + 3 := ⟨k - 3, by omega⟩
    rw [reredosref08_Few.l0]
    by_cases hlt : (i : Int) < (x.length : Int)
    · rw [if_pos hlt]
      by_cases h81 : (i : Int) < 81
      · rw [decide_eq_true h81, reredosref08_Few.j1, if_pos rfl, if_pos (by omega), if_pos hlt]
        have hj : ∀ b : Bool, (b = false → (rd_T25 x (i : Int)).f4.length ≤ 120) → ∃ r, reredosref08_Few.j2 (k + 1) x (i : Int) b = some r ∧ (r = true → x.length ≤ 80) := by
          intro b hb
          rw [reredosref08_Few.j2]
          cases b with
          | true => exact ⟨false, by rw [if_pos rfl], fun h => by cases h⟩
          | false =>
            rw [if_neg (by decide)]
            have h4 := hb rfl
            have e0 : (0 : Int) = ((0 : Nat) : Int) := rfl
            rcases Few_l1 x i (by omega) h4 121 0 k (by omega) (by omega) (by omega) with h1 | ⟨k', h1, h2⟩
            · rw [e0, h1]; exact ⟨false, rfl, fun h => by cases h⟩
            · have hi2 := ih (i + 1) k' (by omega) (by omega) (by omega)
              have hw : wrap64 ((i : Int) + 1) = ((i + 1 : Nat) : Int) := by rw [wrap_id (by omega) (by omega)]; omega
              rw [e0, h2, hw]
              exact hi2
        by_cases c1 : (((rd_T25 x (i : Int)).f1).size : Int) > 120
        · rw [if_pos c1]; exact hj true (fun h => by cases h)
        rw [if_neg c1]
        by_cases c2 : (((rd_T25 x (i : Int)).f2).size : Int) > 120
        · rw [if_pos c2]; exact hj true (fun h => by cases h)
        rw [if_neg c2]
        by_cases c3 : (((rd_T25 x (i : Int)).f3).size : Int) > 120
        · rw [if_pos c3]; exact hj true (fun h => by cases h)
        rw [if_neg c3]
        exact hj _ (fun h => by have := of_decide_eq_false h; omega)
      · rw [decide_eq_false h81, reredosref08_Few.j1, if_neg (by decide)]
        exact ⟨_, rfl, fun h => by have := of_decide_eq_true h; omega⟩
    · rw [if_neg hlt, reredosref08_Few.j1, if_neg (by decide)]
      exact ⟨_, rfl, fun h => by have := of_decide_eq_true h; omega⟩
theorem Few_eq (x : List Nd) (hx : x.length ≤ 9223372036854775807) (k : Nat) (hk : 17000 ≤ k) : ∃ b, reredosref08_Few.f k x = some b ∧ (b = true → x.length ≤ 80) := by
  unfold reredosref08_Few.f
  have e0 : (0 : Int) = ((0 : Nat) : Int) := rfl
  rw [e0]
  exact Few_l0 x hx 81 0 k (by omega) (by omega) (by omega)
end Go.Proofs.Ytdelccahgchadaa
