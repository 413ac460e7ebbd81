/- The tree's functions, printed, in plain words: which trees may be. -/
import Derived.Test.YtdelccahgchadaaGPTree3
namespace Go.Proofs.Ytdelccahgchadaa
open Go.RowKit Go.Lib Go.Proofs.Ytdelccahgchadaa.P Go.Proofs.YtdelccahgchadaaW.PrintWords Go.Proofs.YtdelccahgchadaaW.PrintMore
set_option linter.unusedVariables false
def headB (x : Nd) : Bool := decide (x.f0 = 5 ∨ x.f0 = 6 ∨ x.f0 = 7)
theorem head_eq (a : Int) (b c d : ByteArray) (l : List ByteArray) : tree_head.f a b c d l = some (decide (a = 5 ∨ a = 6 ∨ a = 7)) := by
  unfold tree_head.f
  by_cases h5 : a = 5
  · subst h5; simp
  by_cases h6 : a = 6
  · subst h6; simp
  by_cases h7 : a = 7
  · subst h7; simp
  simp [h5, h6, h7]
/-- All nodes may be, and none but the first stands at a head. -/
def allN : Nat → List Nd → Bool
  | _, [] => true
  | i, x :: l => mayN x && !(headB x && decide (0 < i)) && allN (i + 1) l
theorem May_l0 (l0 : List Nd) (hl : l0.length ≤ 1000000) : ∀ (l : List Nd) (i k : Nat), l0.drop i = l → i ≤ l0.length → l.length + 410 ≤ k → tree_May.l0 k l0 (l0.length : Int) (i : Int) = some (allN i l) := by
  intro l
  induction l with
  | nil =>
    intro i k hd hi hk
    obtain ⟨k, rfl⟩ : ∃ j, k = j + 1 := ⟨k - 1, by rw [List.length_nil] at hk; omega⟩
    have : l0.length ≤ i := by
      have := congrArg List.length hd
      rw [List.length_drop, List.length_nil] at this
      omega
    simp only [tree_May.l0]
    rw [if_neg (by omega)]
    rfl
  | cons x l ih =>
    intro i k hd hi hk
    rw [List.length_cons] at hk
    obtain ⟨k, rfl⟩ : ∃ j, k = j + 1 := ⟨k - 1, by omega⟩
    obtain ⟨hr, hlt, hd2⟩ := rd_drop l0 i x l hd
    have hi2 := ih (i + 1) k hd2 (by omega) (by omega)
    simp only [tree_May.l0]
    rw [if_pos (by omega), if_pos (by omega), if_pos (by omega), hr, may_eq x k (by omega), head_eq]
    have w1 : wrap64 ((i : Int) + 1) = ((i + 1 : Nat) : Int) := by rw [wrap_id (by omega) (by omega)]; omega
    rw [w1, hi2]
    clear w1
    simp only [Option.bind_some, allN, headB]
    cases mayN x with
    | false => rfl
    | true =>
      cases decide (x.f0 = 5 ∨ x.f0 = 6 ∨ x.f0 = 7) with
      | false => simp
      | true =>
        by_cases h0 : 0 < i
        · rw [if_pos rfl, if_pos rfl, if_pos (by omega), decide_eq_true h0]; rfl
        · rw [if_pos rfl, if_pos rfl, if_neg (by omega), decide_eq_false h0]; simp
/-- May a list be a tree? -/
def mayL (l : List Nd) : Bool := decide (endW kdT l 1 = some l.length) && decide (depL kdT l ≤ 40) && allN 0 l
theorem May_eqL (l : List Nd) (hl : l.length ≤ 1000000) (k : Nat) (hk : 5 * l.length + 420 ≤ k) : tree_May.f k l = some (mayL l) := by
  unfold tree_May.f mayL
  have e0 : (0 : Int) = ((0 : Nat) : Int) := rfl
  have hE := End_eq l hl 0 (by omega) k (by omega)
  rw [List.drop_zero, ← e0] at hE
  have hD := Depth_eq l hl k (by omega)
  obtain ⟨j, rfl⟩ : ∃ j, k = j + 1 := ⟨k - 1, by omega⟩
  have hM := May_l0 l hl l 0 j rfl (by omega) (by omega)
  rw [← e0] at hM
  rw [hE, hD]
  simp only [Option.bind_some, tree_May.j0, hM]
  cases h : endW kdT l 1 with
  | none => simp [outE]
  | some m =>
    simp only [outE, Nat.zero_add]
    rw [if_pos trivial]
    by_cases hm : m = l.length
    · subst hm
      rw [if_pos rfl]
      by_cases hd : depL kdT l ≤ 40
      · have : decide ((depL kdT l : Int) > 40) = false := decide_eq_false (by omega)
        rw [this, decide_eq_true hd]; simp
      · have : decide ((depL kdT l : Int) > 40) = true := decide_eq_true (by omega)
        rw [this, decide_eq_false hd]; simp
    · rw [if_neg (by omega), if_pos trivial]
      have : decide (some m = some l.length) = false := decide_eq_false (fun h => hm (Option.some.inj h))
      rw [this]; rfl
theorem mayL_parts {l : List Nd} (h : mayL l = true) : endW kdT l 1 = some l.length ∧ depL kdT l ≤ 40 ∧ allN 0 l = true := by
  unfold mayL at h
  simp only [Bool.and_eq_true, decide_eq_true_eq] at h
  exact ⟨h.1.1, h.1.2, h.2⟩
end Go.Proofs.Ytdelccahgchadaa
