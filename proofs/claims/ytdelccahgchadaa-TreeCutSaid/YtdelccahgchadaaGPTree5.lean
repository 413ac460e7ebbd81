/- The tree's functions, printed, in plain words: trees put together; where those below a node begin. -/
import Derived.Test.YtdelccahgchadaaGPTree4
import Derived.Test.YtdelccahgchadaaPx11
import Derived.Test.YtdelccahgchadaaPx3
import Derived.Test.YtdelccahgchadaaPx1
import Derived.Test.YtdelccahgchadaaPx11
namespace Go.Proofs.Ytdelccahgchadaa
open Go.RowKit Go.Lib Go.Proofs.Ytdelccahgchadaa.P Go.Proofs.YtdelccahgchadaaW.PrintWords Go.Proofs.YtdelccahgchadaaW.PrintMore
set_option linter.unusedVariables false
local notation "Grow.f" => api_Node_64.f
local notation "Concat.f" => api_Node_48.f
local notation "Concat.l0" => api_Node_48.l0
local notation "Concat.l1" => api_Node_48.l1
local notation "rdL" => rd_L7
theorem Grow_eq (n : Nat) (h : n ≤ 1000000) : Grow.f (n : Int) = some [] := by
  unfold api_Node_64.f
  have hw : wrap64 (n : Int) = (n : Int) := wrap_id (by omega) (by omega)
  rw [hw]
  clear hw
  rw [if_neg (by omega)]
  by_cases h0 : (n : Int) > 0
  · have hb : ([] : List Nd).length + ((n : Int)).toNat < 1759218604441 := Nat.lt_of_le_of_lt (by rw [List.length_nil, Int.toNat_natCast]; omega : ([] : List Nd).length + ((n : Int)).toNat ≤ 1000000) (by decide)
    rw [if_pos h0, if_pos (by omega), if_pos hb]
    simp only [Option.bind_some]
    rw [if_pos (by omega)]
    rfl
  · rw [if_neg h0]
def lens (l : List (List Nd)) : Nat := (l.map List.length).sum
theorem rdL_at (l : List (List Nd)) (i : Nat) (h : i < l.length) : rdL l (i : Int) = l[i] := by
  unfold rd_L7
  rw [Int.toNat_natCast, List.getD_eq_getElem?_getD, List.getElem?_eq_getElem h]
  rfl
theorem Concat_l1 (l : List (List Nd)) (hl : l.length ≤ 1000) : ∀ (m i k : Nat) (acc : List Nd), l.length - i < m → m ≤ k → i ≤ l.length → acc.length + lens (l.drop i) ≤ 1000000 → Concat.l1 k acc l (l.length : Int) (i : Int) = some (acc ++ (l.drop i).flatten) := by
  intro m
  induction m with
  | zero => intro i k acc h; omega
  | succ m ih =>
    intro i k acc h hk hi hs
    obtain ⟨k, rfl⟩ : ∃ j, k = j + 1 := ⟨k - 1, by omega⟩
    simp only [api_Node_48.l1]
    by_cases hlt : (i : Int) < (l.length : Int)
    · have hil : i < l.length := by omega
      rw [List.drop_eq_getElem_cons hil] at hs ⊢
      simp only [lens, List.map_cons, List.sum_cons] at hs
      have hb : acc.length + l[i].length < 1759218604441 := Nat.lt_of_le_of_lt (by omega : acc.length + l[i].length ≤ 1000000) (by decide)
      rw [if_pos hlt, if_pos (by omega), if_pos hlt, rdL_at l i hil, if_pos hb]
      have hi2 := ih (i + 1) k (acc ++ l[i]) (by omega) (by omega) (by omega) (by rw [List.length_append]; unfold lens; omega)
      have hw : wrap64 ((i : Int) + 1) = ((i + 1 : Nat) : Int) := by rw [wrap_id (by omega) (by omega)]; omega
      rw [hw, hi2, List.flatten_cons, List.append_assoc]
    · rw [if_neg hlt, List.drop_eq_nil_of_le (by omega)]
      simp
theorem Concat_l0 (l : List (List Nd)) (hl : l.length ≤ 1000) (hs : lens l ≤ 1000000) : ∀ (m i k n : Nat), l.length - i < m → m + 1100 ≤ k → i ≤ l.length → n + lens (l.drop i) ≤ 1000000 → Concat.l0 k l (n : Int) l (l.length : Int) (i : Int) = some l.flatten := by
  intro m
  induction m with
  | zero => intro i k n h; omega
  | succ m ih =>
    intro i k n h hk hi hn
    obtain ⟨k, rfl⟩ : ∃ j, k = j + 1 := ⟨k - 1, by omega⟩
    simp only [api_Node_48.l0]
    by_cases hlt : (i : Int) < (l.length : Int)
    · have hil : i < l.length := by omega
      rw [List.drop_eq_getElem_cons hil] at hn
      simp only [lens, List.map_cons, List.sum_cons] at hn
      have hi2 := ih (i + 1) k (n + l[i].length) (by omega) (by omega) (by omega) (by unfold lens; omega)
      rw [if_pos hlt, if_pos (by omega), if_pos hlt, rdL_at l i hil]
      have hw0 : wrap64 ((n : Int) + (l[i].length : Int)) = ((n + l[i].length : Nat) : Int) := by rw [wrap_id (by omega) (by omega)]; omega
      have hw : wrap64 ((i : Int) + 1) = ((i + 1 : Nat) : Int) := by rw [wrap_id (by omega) (by omega)]; omega
      rw [hw0, hw]
      clear hw hw0
      rw [if_neg (by omega), hi2]
    · have hg := Grow_eq n (by omega)
      rw [if_neg hlt, hg]
      simp only [Option.bind_some]
      have e0 : (0 : Int) = ((0 : Nat) : Int) := rfl
      rw [e0, Concat_l1 l hl (l.length + 1) 0 k [] (by omega) (by omega) (by omega) (by rw [List.drop_zero, List.length_nil]; omega), List.drop_zero, List.nil_append]
theorem Concat_eq (l : List (List Nd)) (hl : l.length ≤ 1000) (hs : lens l ≤ 1000000) (k : Nat) (hk : 2200 ≤ k) : Concat.f k l = some l.flatten := by
  unfold api_Node_48.f
  have e0 : (0 : Int) = ((0 : Nat) : Int) := rfl
  rw [e0]
  exact Concat_l0 l hl hs (l.length + 1) 0 k 0 (by omega) (by omega) (by omega) (by rw [List.drop_zero]; omega)
theorem Node_eq (a : Int) (b c d : ByteArray) (e : List ByteArray) (l : List (List Nd)) (hl : l.length ≤ 1000) (hs : lens l ≤ 1000000) (k : Nat) (hk : 2200 ≤ k) : tree_Node.f k a b c d e l = some (⟨a, b, c, d, e⟩ :: l.flatten) := by
  unfold tree_Node.f
  rw [Concat_eq l hl hs k hk]
  simp only [Option.bind_some]
  have hf : l.flatten.length = lens l := by simp [lens, List.length_flatten]
  have hb : [(⟨a, b, c, d, e⟩ : Nd)].length + l.flatten.length < 1759218604441 := Nat.lt_of_le_of_lt (by rw [hf, List.length_singleton]; omega : [(⟨a, b, c, d, e⟩ : Nd)].length + l.flatten.length ≤ 1000001) (by decide)
  rw [if_pos hb]
  rfl
end Go.Proofs.Ytdelccahgchadaa
