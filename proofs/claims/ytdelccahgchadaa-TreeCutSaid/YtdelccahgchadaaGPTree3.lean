/- The tree's functions, printed, in plain words: which nodes, and trees, may be. -/
import Derived.Test.YtdelccahgchadaaGPTree2
import Derived.Test.YtdelccahgchadaaPx9
namespace Go.Proofs.Ytdelccahgchadaa
open Go.RowKit Go.Lib Go.Proofs.Ytdelccahgchadaa.P Go.Proofs.YtdelccahgchadaaW.PrintWords Go.Proofs.YtdelccahgchadaaW.PrintMore
set_option linter.unusedVariables false
theorem rdS_get (l : List ByteArray) (i : Nat) (h : i < l.length) : rdOf ByteArray.empty l (i : Int) = l[i] := by
  unfold rdOf
  rw [Int.toNat_natCast, List.getD_eq_getElem?_getD, List.getElem?_eq_getElem h]
  rfl
theorem IndexNum (l : List ByteArray) (hl : l.length ≤ 1000000) : ∀ (m i k : Nat), l.length - i < m → m ≤ k → i ≤ l.length → ∃ r, slices_IndexFunc_string_string.l0 k l (l.length : Int) (i : Int) = some r ∧ decide (r ≥ 0) = (l.drop i).any fun s => !mayB (L s) := by
  intro m
  induction m with
  | zero => intro i k h; omega
  | succ m ih =>
    intro i k h hk hi
    obtain ⟨k, rfl⟩ : ∃ j, k = j + 1 := ⟨k - 1, by omega⟩
    simp only [slices_IndexFunc_string_string.l0]
    by_cases hlt : (i : Int) < (l.length : Int)
    · have hil : i < l.length := by omega
      rw [if_pos hlt, if_pos (by omega), if_pos hlt, rdS_get l i hil, List.drop_eq_getElem_cons hil, List.any_cons]
      unfold tree_may_1.f
      rw [May_eq]
      simp only [Option.bind_some]
      cases hm : mayB (L l[i]) with
      | false => exact ⟨(i : Int), by simp, by simp⟩
      | true =>
        obtain ⟨r, h1, h2⟩ := ih (i + 1) k (by omega) (by omega) (by omega)
        refine ⟨r, ?_, by rw [h2]; simp⟩
        have hw : wrap64 ((i : Int) + 1) = ((i + 1 : Nat) : Int) := by rw [wrap_id (by omega) (by omega)]; omega
        rw [hw, h1]; rfl
    · rw [if_neg hlt, List.drop_eq_nil_of_le (by omega)]
      exact ⟨-1, rfl, rfl⟩
theorem ContainsNum (l : List ByteArray) (hl : l.length ≤ 1000000) (k : Nat) (hk : l.length + 1 ≤ k) : slices_ContainsFunc_string_string.f k l = some (l.any fun s => !mayB (L s)) := by
  unfold slices_ContainsFunc_string_string.f slices_IndexFunc_string_string.f
  obtain ⟨r, h1, h2⟩ := IndexNum l hl (l.length + 1) 0 k (by omega) hk (by omega)
  have e0 : (0 : Int) = ((0 : Nat) : Int) := rfl
  rw [e0, h1]
  rw [List.drop_zero] at h2
  simp only [Option.bind_some]
  rw [← h2]
  rfl
def noB (s : ByteArray) : Bool := s.toList == ([] : List UInt8)
/-- May a node be? -/
def mayN (x : Nd) : Bool :=
  if x.f0 = 1 then noB x.f1 && noB x.f2 && noB x.f3 && !(x.f4.length == 0) && decide (x.f4.length ≤ 100) && !(x.f4.any fun s => !mayB (L s))
  else if x.f0 = 2 ∨ x.f0 = 5 ∨ x.f0 = 6 then noB x.f1 && noB x.f2 && x.f4.length == 0 && isB x.f3 2
  else if x.f0 = 7 then noB x.f1 && noB x.f2 && x.f4.length == 0 && isB x.f3 3
  else if x.f0 = 8 then noB x.f1 && noB x.f2 && x.f4.length == 0 && noB x.f3
  else if x.f0 = 3 then x.f4.length == 0 && noB x.f3 && verbB x.f1 && advB x.f2 ⟨#[39, 47, 92, 96]⟩
  else if x.f0 = 4 then x.f4.length == 0 && noB x.f3 && verbB x.f1 && advB x.f2 ⟨#[39, 46]⟩
  else false
theorem if_and (a : Bool) (p : Prop) [Decidable p] (ha : a = decide p) (x : Bool) : (if p then some x else some false) = some (a && x) := by
  subst ha
  by_cases h : p <;> simp [h]
theorem if_andT (a x : Bool) : (if a = true then some x else some false) = some (a && x) := by cases a <;> rfl
theorem noB_if (s : ByteArray) (x : Bool) : (if s.toList = ([] : List UInt8) then some x else some false) = some (noB s && x) := by
  unfold noB
  by_cases h : s.toList = ([] : List UInt8)
  · rw [if_pos h, h]; rfl
  · rw [if_neg h]
    have : (s.toList == ([] : List UInt8)) = false := by simpa using h
    rw [this]; rfl
theorem may_eq (x : Nd) (k : Nat) (hk : 400 < k) : tree_may.f k x.f0 x.f1 x.f2 x.f3 x.f4 = some (mayN x) := by
  obtain ⟨k, rfl⟩ : ∃ j, k = j + 2 := ⟨k - 2, by omega⟩
  obtain ⟨k0, v, a, n, l⟩ := x
  simp only []
  have key : ∀ pl : Bool, pl = (noB v && noB a) → tree_may.j0 (k + 2) ((l.length : Int) == 0) pl k0 v a n l = some (mayN ⟨k0, v, a, n, l⟩) := by
    intro pl hpl
    have hbare : ((l.length : Int) == 0) = (l.length == 0) := by
      rw [Bool.eq_iff_iff]; simp
    rw [hbare]
    simp only [tree_may.j0, tree_may.j1, is_eq _ _ k (by omega), verb_eq _ k (by omega), adv_eq, Option.bind_some, if_andT, noB_if, mayN, ← hpl]
    have hcn : (if (l.length : Int) ≤ 100 then (slices_ContainsFunc_string_string.f (k + 1) l).bind fun t => some (!t) else some false) = some (decide (l.length ≤ 100) && !(l.any fun s => !mayB (L s))) := by
      by_cases h : l.length ≤ 100
      · rw [if_pos (by omega), ContainsNum l (by omega) (k + 1) (by omega), decide_eq_true h]
        rfl
      · rw [if_neg (by omega), decide_eq_false h]
        rfl
    rw [hcn]
    by_cases h1 : k0 = 1
    · subst h1
      cases pl <;> cases (l.length == 0) <;> by_cases hn : n.toList = [] <;> simp [noB, hn]
    rw [if_neg h1, if_neg h1]
    by_cases h2 : k0 = 2
    · subst h2; simp [Bool.and_assoc]
    by_cases h5 : k0 = 5
    · subst h5; simp [Bool.and_assoc]
    by_cases h6 : k0 = 6
    · subst h6; simp [Bool.and_assoc]
    have h256 : ¬ (k0 = 2 ∨ k0 = 5 ∨ k0 = 6) := by omega
    have hb6 : ¬ (k0 == 6) = true := by simpa using h6
    rw [if_neg h2, if_neg h5, if_neg hb6, if_neg h256]
    by_cases h7 : k0 = 7
    · subst h7; simp [Bool.and_assoc]
    rw [if_neg h7, if_neg h7]
    by_cases h8 : k0 = 8
    · subst h8; simp [Bool.and_assoc, noB]
    rw [if_neg h8, if_neg h8]
    by_cases h3 : k0 = 3
    · subst h3; simp [Bool.and_assoc]
    rw [if_neg h3, if_neg h3]
    by_cases h4 : k0 = 4
    · subst h4; simp [Bool.and_assoc]
    rw [if_neg h4, if_neg h4]
  unfold tree_may.f
  by_cases hv : v.toList = ([] : List UInt8)
  · rw [if_pos hv]
    exact key _ (by unfold noB; rw [hv]; rfl)
  · rw [if_neg hv]
    exact key _ (by
      unfold noB
      have : (v.toList == ([] : List UInt8)) = false := by simpa using hv
      rw [this]; rfl)
end Go.Proofs.Ytdelccahgchadaa
