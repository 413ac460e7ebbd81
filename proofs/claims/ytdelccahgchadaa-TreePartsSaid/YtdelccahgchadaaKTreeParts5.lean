/- The law TreeParts: its row, proved; all that it rests on stands in the texts ahead of it. No conditions. -/
import Derived.Test.YtdelccahgchadaaKTreeParts4
import Derived.Test.YtdelccahgchadaaRows
set_option linter.unusedVariables false
set_option linter.unusedSimpArgs false
section
namespace Go.Proofs.Ytdelccahgchadaa
open Go.RowKit Go.Lib Go.Proofs.Ytdelccahgchadaa.P Go.Proofs.YtdelccahgchadaaW.PrintWords Go.Proofs.YtdelccahgchadaaW.PrintMore
set_option linter.unusedVariables false
theorem Grow_eq (n : Nat) (h : n ≤ 1000000) : api_Node_64.f (n : Int) = some [] := by
  unfold api_Node_64.f
  have hw : wrap64 (n : Int) = (n : Int) := wrap_id (by omega) (by omega)
  rw [hw]
  clear hw
  rw [if_neg (by omega)]
  by_cases h0 : (n : Int) > 0
  · have hb : ([] : List Nd).length + ((n : Int)).toNat < 1759218604441 := Nat.lt_of_le_of_lt (by rw [List.length_nil, Int.toNat_natCast]; omega : ([] : List Nd).length + ((n : Int)).toNat ≤ 1000000) (by decide)
    rw [if_pos h0, if_pos (by omega), if_pos hb]
    simp only [Option.bind_some]
    rw [if_pos (by omega)]
    rfl
  · rw [if_neg h0]
def lens (l : List (List Nd)) : Nat := (l.map List.length).sum
theorem rdL_at (l : List (List Nd)) (i : Nat) (h : i < l.length) : rd_L7 l (i : Int) = l[i] := by
  unfold rd_L7
  rw [Int.toNat_natCast, List.getD_eq_getElem?_getD, List.getElem?_eq_getElem h]
  rfl
theorem Concat_l1 (l : List (List Nd)) (hl : l.length ≤ 1000) : ∀ (m i k : Nat) (acc : List Nd), l.length - i < m → m ≤ k → i ≤ l.length → acc.length + lens (l.drop i) ≤ 1000000 → api_Node_48.l1 k acc l (l.length : Int) (i : Int) = some (acc ++ (l.drop i).flatten) := by
  intro m
  induction m with
  | zero => intro i k acc h; omega
  | succ m ih =>
    intro i k acc h hk hi hs
    obtain ⟨k, rfl⟩ : ∃ j, k = j + 1 := ⟨k - 1, by omega⟩
    simp only [api_Node_48.l1]
    by_cases hlt : (i : Int) < (l.length : Int)
    · have hil : i < l.length := by omega
      rw [List.drop_eq_getElem_cons hil] at hs ⊢
      simp only [lens, List.map_cons, List.sum_cons] at hs
      have hb : acc.length + l[i].length < 1759218604441 := Nat.lt_of_le_of_lt (by omega : acc.length + l[i].length ≤ 1000000) (by decide)
      rw [if_pos hlt, if_pos (by omega), if_pos hlt, rdL_at l i hil, if_pos hb]
      have hi2 := ih (i + 1) k (acc ++ l[i]) (by omega) (by omega) (by omega) (by rw [List.length_append]; unfold lens; omega)
      have hw : wrap64 ((i : Int) + 1) = ((i + 1 : Nat) : Int) := by rw [wrap_id (by omega) (by omega)]; omega
      rw [hw, hi2, List.flatten_cons, List.append_assoc]
    · rw [if_neg hlt, List.drop_eq_nil_of_le (by omega)]
      simp
theorem Concat_l0 (l : List (List Nd)) (hl : l.length ≤ 1000) (hs : lens l ≤ 1000000) : ∀ (m i k n : Nat), l.length - i < m → m + 1100 ≤ k → i ≤ l.length → n + lens (l.drop i) ≤ 1000000 → api_Node_48.l0 k l (n : Int) l (l.length : Int) (i : Int) = some l.flatten := by
  intro m
  induction m with
  | zero => intro i k n h; omega
  | succ m ih =>
    intro i k n h hk hi hn
    obtain ⟨k, rfl⟩ : ∃ j, k = j + 1 := ⟨k - 1, by omega⟩
    simp only [api_Node_48.l0]
    by_cases hlt : (i : Int) < (l.length : Int)
    · have hil : i < l.length := by omega
      rw [List.drop_eq_getElem_cons hil] at hn
      simp only [lens, List.map_cons, List.sum_cons] at hn
      have hi2 := ih (i + 1) k (n + l[i].length) (by omega) (by omega) (by omega) (by unfold lens; omega)
      rw [if_pos hlt, if_pos (by omega), if_pos hlt, rdL_at l i hil]
      have hw0 : wrap64 ((n : Int) + (l[i].length : Int)) = ((n + l[i].length : Nat) : Int) := by rw [wrap_id (by omega) (by omega)]; omega
      have hw : wrap64 ((i : Int) + 1) = ((i + 1 : Nat) : Int) := by rw [wrap_id (by omega) (by omega)]; omega
      rw [hw0, hw]
      clear hw hw0
      rw [if_neg (by omega), hi2]
    · have hg := Grow_eq n (by omega)
      rw [if_neg hlt, hg]
      simp only [Option.bind_some]
      have e0 : (0 : Int) = ((0 : Nat) : Int) := rfl
      rw [e0, Concat_l1 l hl (l.length + 1) 0 k [] (by omega) (by omega) (by omega) (by rw [List.drop_zero, List.length_nil]; omega), List.drop_zero, List.nil_append]
theorem Concat_eq (l : List (List Nd)) (hl : l.length ≤ 1000) (hs : lens l ≤ 1000000) (k : Nat) (hk : 2200 ≤ k) : api_Node_48.f k l = some l.flatten := by
  unfold api_Node_48.f
  have e0 : (0 : Int) = ((0 : Nat) : Int) := rfl
  rw [e0]
  exact Concat_l0 l hl hs (l.length + 1) 0 k 0 (by omega) (by omega) (by omega) (by rw [List.drop_zero]; omega)
theorem Node_eq (a : Int) (b c d : ByteArray) (e : List ByteArray) (l : List (List Nd)) (hl : l.length ≤ 1000) (hs : lens l ≤ 1000000) (k : Nat) (hk : 2200 ≤ k) : tree_Node.f k a b c d e l = some (⟨a, b, c, d, e⟩ :: l.flatten) := by
  unfold tree_Node.f
  rw [Concat_eq l hl hs k hk]
  simp only [Option.bind_some]
  have hf : l.flatten.length = lens l := by simp [lens, List.length_flatten]
  have hb : [(⟨a, b, c, d, e⟩ : Nd)].length + l.flatten.length < 1759218604441 := Nat.lt_of_le_of_lt (by rw [hf, List.length_singleton]; omega : [(⟨a, b, c, d, e⟩ : Nd)].length + l.flatten.length ≤ 1000001) (by decide)
  rw [if_pos hb]
  rfl
end Go.Proofs.Ytdelccahgchadaa
end
section
namespace Go.Proofs.Ytdelccahgchadaa
open Go.RowKit Go.Lib Go.Proofs.Ytdelccahgchadaa.P Go.Proofs.YtdelccahgchadaaW.PrintWords Go.Proofs.YtdelccahgchadaaW.PrintMore
set_option linter.unusedVariables false
def undP (l : List Nd) : Nat → Nat → List Nat
  | 0, _ => []
  | c + 1, p => p :: undP l c (match endW kdT (l.drop p) 1 with | none => 0 | some m => p + m)
theorem outE_fst (i : Nat) (o : Option Nat) : (outE i o).1 = (((match o with | none => 0 | some m => i + m) : Nat) : Int) := by cases o <;> rfl
theorem Under_l0 (l : List Nd) (hl : l.length ≤ 1000000) (K : Nat) (hK : K ≤ 3) : ∀ (c j p k : Nat) (acc : List Int), j + c = K → p ≤ l.length → l.length + c + 10 ≤ k → acc.length ≤ j →
    tree_Under.l0 k l acc (p : Int) (K : Int) (j : Int) = some (acc ++ (undP l c p).map fun n : Nat => (n : Int)) := by
  intro c
  induction c with
  | zero =>
    intro j p k acc hj hp hk ha
    obtain ⟨k, rfl⟩ : ∃ i, k = i + 1 := ⟨k - 1, by omega⟩
    simp only [tree_Under.l0]
    rw [if_neg (by omega)]
    simp [undP]
  | succ c ih =>
    intro j p k acc hj hp hk ha
    obtain ⟨k, rfl⟩ : ∃ i, k = i + 1 := ⟨k - 1, by omega⟩
    simp only [tree_Under.l0]
    have hb : acc.length < 17592186044416 := Nat.lt_of_le_of_lt (by omega : acc.length ≤ 3) (by decide)
    obtain ⟨q, hq⟩ : ∃ q, (match endW kdT (l.drop p) 1 with | none => 0 | some m => p + m) = q := ⟨_, rfl⟩
    have hql : q ≤ l.length := by
      rw [← hq]
      cases h : endW kdT (l.drop p) 1 with
      | none => exact Nat.zero_le _
      | some m =>
        have := (endW_le kdT h).1
        rw [List.length_drop] at this
        simp only []
        omega
    have hi2 := ih (j + 1) q k (acc ++ [(p : Int)]) (by omega) hql (by omega) (by rw [List.length_append, List.length_singleton]; omega)
    rw [if_pos (by omega), if_pos hb, End_eq l hl p hp k (by omega)]
    simp only [Option.bind_some]
    have hw : wrap64 ((j : Int) + 1) = ((j + 1 : Nat) : Int) := by rw [wrap_id (by omega) (by omega)]; omega
    rw [outE_fst, hq, hw, hi2]
    simp only [undP, hq, List.map_cons, List.append_assoc]
    rfl
def undL (l : List Nd) (i : Nat) : List Nat := match endW kdT (l.drop i) 1, l.drop i with | some _, x :: _ => undP l (kdT x).toNat (i + 1) | _, _ => []
theorem Under_eq (l : List Nd) (hl : l.length ≤ 1000000) (i : Nat) (hi : i ≤ l.length) (k : Nat) (hk : l.length + 20 ≤ k) : tree_Under.f k l (i : Int) = some ((undL l i).map fun n : Nat => (n : Int)) := by
  unfold tree_Under.f undL
  rw [End_eq l hl i hi k (by omega)]
  simp only [Option.bind_some]
  cases h : endW kdT (l.drop i) 1 with
  | none => simp [outE]
  | some m =>
    simp only [outE]
    rw [if_pos trivial]
    cases hd : l.drop i with
    | nil => rw [hd] at h; cases h
    | cons x r =>
      obtain ⟨hr, hlt, hd2⟩ := rd_drop l i x r hd
      rw [if_pos (by omega), if_pos (by omega), hr, Kids_eq _ _ _ _ _ k (by omega)]
      simp only [Option.bind_some]
      have hb := kdB_bounds x.f0 x.f1
      have hk0 : ¬ kdT x < 0 := by
        intro hn
        rw [hd] at h
        simp only [endW] at h
        rw [if_pos hn] at h
        cases h
      have hk1 : kdT x = kdB x.f0 x.f1 := rfl
      obtain ⟨c, hc⟩ : ∃ c, (kdT x).toNat = c := ⟨_, rfl⟩
      have hkc : kdB x.f0 x.f1 = (c : Int) := by omega
      have hu := Under_l0 l hl c (by omega) c 0 (i + 1) k [] (by omega) (by omega) (by omega) (by simp)
      have hw : wrap64 ((i : Int) + 1) = ((i + 1 : Nat) : Int) := by rw [wrap_id (by omega) (by omega)]; omega
      have e0 : (0 : Int) = ((0 : Nat) : Int) := rfl
      rw [hkc, hw, e0, hu, hc, List.nil_append]
theorem shown08_eq (k : Nat) (hk : 3000 ≤ k) : reredoslaw08_shown.f k = some true := by
  unfold reredoslaw08_shown.f reredoslaw08_lit.f
  simp only [Option.bind_some]
  rw [Node_eq _ _ _ _ _ _ (by decide) (by decide) k (by omega)]
  simp only [Option.bind_some]
  have hM := May_eqL ((⟨4, ⟨#[43]⟩, ⟨#[]⟩, ⟨#[]⟩, []⟩ : Nd) :: [[(⟨1, ⟨#[]⟩, ⟨#[]⟩, ⟨#[]⟩, [⟨#[49]⟩]⟩ : Nd)], [(⟨1, ⟨#[]⟩, ⟨#[]⟩, ⟨#[]⟩, [⟨#[50]⟩]⟩ : Nd)]].flatten) (by decide) k (by simp; omega)
  have hD := Depth_eq ((⟨4, ⟨#[43]⟩, ⟨#[]⟩, ⟨#[]⟩, []⟩ : Nd) :: [[(⟨1, ⟨#[]⟩, ⟨#[]⟩, ⟨#[]⟩, [⟨#[49]⟩]⟩ : Nd)], [(⟨1, ⟨#[]⟩, ⟨#[]⟩, ⟨#[]⟩, [⟨#[50]⟩]⟩ : Nd)]].flatten) (by decide) k (by simp; omega)
  have hU := Under_eq ((⟨4, ⟨#[43]⟩, ⟨#[]⟩, ⟨#[]⟩, []⟩ : Nd) :: [[(⟨1, ⟨#[]⟩, ⟨#[]⟩, ⟨#[]⟩, [⟨#[49]⟩]⟩ : Nd)], [(⟨1, ⟨#[]⟩, ⟨#[]⟩, ⟨#[]⟩, [⟨#[50]⟩]⟩ : Nd)]].flatten) (by decide) 0 (by decide) k (by simp; omega)
  have e1 : mayL ((⟨4, ⟨#[43]⟩, ⟨#[]⟩, ⟨#[]⟩, []⟩ : Nd) :: [[(⟨1, ⟨#[]⟩, ⟨#[]⟩, ⟨#[]⟩, [⟨#[49]⟩]⟩ : Nd)], [(⟨1, ⟨#[]⟩, ⟨#[]⟩, ⟨#[]⟩, [⟨#[50]⟩]⟩ : Nd)]].flatten) = true := by decide +kernel
  have e2 : depL kdT ((⟨4, ⟨#[43]⟩, ⟨#[]⟩, ⟨#[]⟩, []⟩ : Nd) :: [[(⟨1, ⟨#[]⟩, ⟨#[]⟩, ⟨#[]⟩, [⟨#[49]⟩]⟩ : Nd)], [(⟨1, ⟨#[]⟩, ⟨#[]⟩, ⟨#[]⟩, [⟨#[50]⟩]⟩ : Nd)]].flatten) = 2 := by decide +kernel
  have e3 : undL ((⟨4, ⟨#[43]⟩, ⟨#[]⟩, ⟨#[]⟩, []⟩ : Nd) :: [[(⟨1, ⟨#[]⟩, ⟨#[]⟩, ⟨#[]⟩, [⟨#[49]⟩]⟩ : Nd)], [(⟨1, ⟨#[]⟩, ⟨#[]⟩, ⟨#[]⟩, [⟨#[50]⟩]⟩ : Nd)]].flatten) 0 = [1, 2] := by decide +kernel
  have e0 : (0 : Int) = ((0 : Nat) : Int) := rfl
  rw [← e0] at hU
  rw [hM, hD, hU, e1, e2, e3]
  obtain ⟨k, rfl⟩ : ∃ j, k = j + 3 := ⟨k - 3, by omega⟩
  simp [reredosref03_Same.f, reredosref03_Same.l0, wrap64, rd, rd_T25]
end Go.Proofs.Ytdelccahgchadaa
end
section
namespace Go.Proofs.Ytdelccahgchadaa
open Go.RowKit Go.Lib Go.Proofs.Ytdelccahgchadaa.P Go.Proofs.YtdelccahgchadaaW.PrintWords Go.Proofs.YtdelccahgchadaaW.PrintMore
set_option linter.unusedVariables false
theorem Few_l1 (x : List Nd) (i : Nat) (hi : i < x.length) (hn : (rd_T25 x (i : Int)).f4.length ≤ 120) : ∀ (m j k : Nat), (rd_T25 x (i : Int)).f4.length - j < m → m ≤ k → j ≤ (rd_T25 x (i : Int)).f4.length → reredosref08_Few.l1 k x (i : Int) (j : Int) = some false ∨ ∃ k', k ≤ k' + m ∧ reredosref08_Few.l1 k x (i : Int) (j : Int) = reredosref08_Few.l0 k' x (wrap64 ((i : Int) + 1)) := by
  intro m
  induction m with
  | zero => intro j k h; omega
  | succ m ih =>
    intro j k h hk hj
    obtain ⟨k, rfl⟩ : ∃ q, k = q + 1 := ⟨k - 1, by omega⟩
    have e : reredosref08_Few.l1 (k + 1) x (i : Int) (j : Int) = if 0 ≤ (i : Int) then (if (i : Int) < (x.length : Int) then (if (j : Int) < (((rd_T25 x (i : Int)).f4).length : Int) then (if 0 ≤ (j : Int) then (if ((rdOf ByteArray.empty ((rd_T25 x (i : Int)).f4) (j : Int)).size : Int) > 120 then (some false) else (reredosref08_Few.l1 k x (i : Int) (wrap64 ((j : Int) + 1)))) else (none)) else (reredosref08_Few.l0 k x (wrap64 ((i : Int) + 1)))) else (none)) else (none) := by rw [reredosref08_Few.l1]
    rw [e, if_pos (by omega), if_pos (by omega)]
    by_cases hlt : (j : Int) < (((rd_T25 x (i : Int)).f4).length : Int)
    · rw [if_pos hlt, if_pos (by omega)]
      by_cases hs : ((rdOf ByteArray.empty ((rd_T25 x (i : Int)).f4) (j : Int)).size : Int) > 120
      · left; rw [if_pos hs]
      · rw [if_neg hs]
        have hi2 := ih (j + 1) k (by omega) (by omega) (by omega)
        have hw : wrap64 ((j : Int) + 1) = ((j + 1 : Nat) : Int) := by rw [wrap_id (by omega) (by omega)]; omega
        rw [hw]
        rcases hi2 with h1 | ⟨k', h1, h2⟩
        · exact .inl h1
        · exact .inr ⟨k', by omega, h2⟩
    · rw [if_neg hlt]
      exact .inr ⟨k, by omega, rfl⟩
theorem Few_l0 (x : List Nd) (hx : x.length ≤ 9223372036854775807) : ∀ (d i k : Nat), 81 - i ≤ d → i ≤ x.length → 200 * d + 200 ≤ k → ∃ b, reredosref08_Few.l0 k x (i : Int) = some b ∧ (b = true → x.length ≤ 80) := by
  intro d
  induction d with
  | zero =>
    intro i k hd hi hk
    obtain ⟨k, rfl⟩ : ∃ q, k = q + 2 := ⟨k - 2, by omega⟩
    have h81 : decide ((i : Int) < 81) = false := decide_eq_false (by omega)
    rw [reredosref08_Few.l0]
    by_cases hlt : (i : Int) < (x.length : Int)
    · rw [if_pos hlt, h81, reredosref08_Few.j1, if_neg (by decide)]
      exact ⟨_, rfl, fun h => by have := of_decide_eq_true h; omega⟩
    · rw [if_neg hlt, reredosref08_Few.j1, if_neg (by decide)]
      exact ⟨_, rfl, fun h => by have := of_decide_eq_true h; omega⟩
  | succ d ih =>
    intro i k hd hi hk
    obtain ⟨k, rfl⟩ : ∃ q, k = q + 3 := ⟨k - 3, by omega⟩
    rw [reredosref08_Few.l0]
    by_cases hlt : (i : Int) < (x.length : Int)
    · rw [if_pos hlt]
      by_cases h81 : (i : Int) < 81
      · rw [decide_eq_true h81, reredosref08_Few.j1, if_pos rfl, if_pos (by omega), if_pos hlt]
        have hj : ∀ b : Bool, (b = false → (rd_T25 x (i : Int)).f4.length ≤ 120) → ∃ r, reredosref08_Few.j2 (k + 1) x (i : Int) b = some r ∧ (r = true → x.length ≤ 80) := by
          intro b hb
          rw [reredosref08_Few.j2]
          cases b with
          | true => exact ⟨false, by rw [if_pos rfl], fun h => by cases h⟩
          | false =>
            rw [if_neg (by decide)]
            have h4 := hb rfl
            have e0 : (0 : Int) = ((0 : Nat) : Int) := rfl
            rcases Few_l1 x i (by omega) h4 121 0 k (by omega) (by omega) (by omega) with h1 | ⟨k', h1, h2⟩
            · rw [e0, h1]; exact ⟨false, rfl, fun h => by cases h⟩
            · have hi2 := ih (i + 1) k' (by omega) (by omega) (by omega)
              have hw : wrap64 ((i : Int) + 1) = ((i + 1 : Nat) : Int) := by rw [wrap_id (by omega) (by omega)]; omega
              rw [e0, h2, hw]
              exact hi2
        by_cases c1 : (((rd_T25 x (i : Int)).f1).size : Int) > 120
        · rw [if_pos c1]; exact hj true (fun h => by cases h)
        rw [if_neg c1]
        by_cases c2 : (((rd_T25 x (i : Int)).f2).size : Int) > 120
        · rw [if_pos c2]; exact hj true (fun h => by cases h)
        rw [if_neg c2]
        by_cases c3 : (((rd_T25 x (i : Int)).f3).size : Int) > 120
        · rw [if_pos c3]; exact hj true (fun h => by cases h)
        rw [if_neg c3]
        exact hj _ (fun h => by have := of_decide_eq_false h; omega)
      · rw [decide_eq_false h81, reredosref08_Few.j1, if_neg (by decide)]
        exact ⟨_, rfl, fun h => by have := of_decide_eq_true h; omega⟩
    · rw [if_neg hlt, reredosref08_Few.j1, if_neg (by decide)]
      exact ⟨_, rfl, fun h => by have := of_decide_eq_true h; omega⟩
theorem Few_eq (x : List Nd) (hx : x.length ≤ 9223372036854775807) (k : Nat) (hk : 17000 ≤ k) : ∃ b, reredosref08_Few.f k x = some b ∧ (b = true → x.length ≤ 80) := by
  unfold reredosref08_Few.f
  have e0 : (0 : Int) = ((0 : Nat) : Int) := rfl
  rw [e0]
  exact Few_l0 x hx 81 0 k (by omega) (by omega) (by omega)
end Go.Proofs.Ytdelccahgchadaa
end
section
namespace Go.Proofs.Ytdelccahgchadaa
open Go.RowKit Go.Lib Go.Proofs.Ytdelccahgchadaa.P Go.Proofs.YtdelccahgchadaaW.PrintWords Go.Proofs.YtdelccahgchadaaW.PrintMore
set_option linter.unusedVariables false
theorem toList_inj {a b : ByteArray} : a.toList = b.toList ↔ a = b := ⟨fun h => L_ext (by rw [← toList_L, ← toList_L]; exact h), fun h => by rw [h]⟩
theorem SE_l0 (a b : List ByteArray) (hl : a.length = b.length) (hb : a.length ≤ 9223372036854775807) : ∀ (m i k : Nat), a.length - i < m → m ≤ k → i ≤ a.length → ∃ r, slices_Equal_string_string.l0 k a b (a.length : Int) (i : Int) = some r ∧ (r = true ↔ a.drop i = b.drop i) := by
  intro m
  induction m with
  | zero => intro i k h; omega
  | succ m ih =>
    intro i k h hk hi
    obtain ⟨k, rfl⟩ : ∃ j, k = j + 1 := ⟨k - 1, by omega⟩
    simp only [slices_Equal_string_string.l0]
    by_cases hlt : i < a.length
    · rw [if_pos (by omega), if_pos (by omega), if_pos (by omega), if_pos (by omega), rdS_get a i hlt, rdS_get b i (by omega), List.drop_eq_getElem_cons hlt, List.drop_eq_getElem_cons (show i < b.length by omega)]
      by_cases he : a[i].toList = b[i].toList
      · obtain ⟨r, h1, h2⟩ := ih (i + 1) k (by omega) (by omega) (by omega)
        have hw : wrap64 ((i : Int) + 1) = ((i + 1 : Nat) : Int) := by rw [wrap_id (by omega) (by omega)]; omega
        rw [if_pos he, hw, h1]
        exact ⟨r, rfl, h2.trans ⟨fun h3 => by rw [h3, toList_inj.1 he], fun h3 => by injection h3⟩⟩
      · rw [if_neg he]
        exact ⟨false, rfl, ⟨fun h3 => (by cases h3), fun h3 => by injection h3 with h4 h5; exact absurd (toList_inj.2 h4) he⟩⟩
    · rw [if_neg (by omega), List.drop_eq_nil_of_le (by omega), List.drop_eq_nil_of_le (by omega)]
      exact ⟨true, rfl, by simp⟩
theorem SE_eq (a b : List ByteArray) (hb : a.length ≤ 9223372036854775807) (k : Nat) (hk : a.length + 1 ≤ k) : ∃ r, slices_Equal_string_string.f k a b = some r ∧ (r = true ↔ a = b) := by
  unfold slices_Equal_string_string.f
  by_cases h : (a.length : Int) = (b.length : Int)
  · rw [if_pos h]
    have e0 : (0 : Int) = ((0 : Nat) : Int) := rfl
    rw [e0]
    exact SE_l0 a b (by omega) hb (a.length + 1) 0 k (by omega) hk (by omega)
  · rw [if_neg h]
    exact ⟨false, rfl, ⟨fun h3 => (by cases h3), fun h3 => absurd (by rw [h3]) h⟩⟩
theorem Nd_ext {x y : Nd} (h0 : x.f0 = y.f0) (h1 : x.f1 = y.f1) (h2 : x.f2 = y.f2) (h3 : x.f3 = y.f3) (h4 : x.f4 = y.f4) : x = y := by
  cases x; cases y
  simp only at h0 h1 h2 h3 h4
  rw [h0, h1, h2, h3, h4]
theorem Same1_eq (x y : Nd) (hb : x.f4.length ≤ 9223372036854775807) (k : Nat) (hk : x.f4.length + 1 ≤ k) : ∃ r, tree_Same_1.f k x.f0 x.f1 x.f2 x.f3 x.f4 y.f0 y.f1 y.f2 y.f3 y.f4 = some r ∧ (r = true ↔ x = y) := by
  unfold tree_Same_1.f
  by_cases h0 : x.f0 = y.f0
  · rw [if_pos h0]
    by_cases h1 : x.f1.toList = y.f1.toList
    · rw [if_pos h1]
      by_cases h2 : x.f2.toList = y.f2.toList
      · rw [if_pos h2]
        by_cases h3 : x.f3.toList = y.f3.toList
        · rw [if_pos h3]
          obtain ⟨r, h4, h5⟩ := SE_eq x.f4 y.f4 hb k hk
          rw [h4]
          exact ⟨r, rfl, h5.trans ⟨fun h6 => Nd_ext h0 (toList_inj.1 h1) (toList_inj.1 h2) (toList_inj.1 h3) h6, fun h6 => by rw [h6]⟩⟩
        · rw [if_neg h3]; exact ⟨false, rfl, ⟨fun h => (by cases h), fun h => absurd (by rw [h]) h3⟩⟩
      · rw [if_neg h2]; exact ⟨false, rfl, ⟨fun h => (by cases h), fun h => absurd (by rw [h]) h2⟩⟩
    · rw [if_neg h1]; exact ⟨false, rfl, ⟨fun h => (by cases h), fun h => absurd (by rw [h]) h1⟩⟩
  · rw [if_neg h0]; exact ⟨false, rfl, ⟨fun h => (by cases h), fun h => absurd (by rw [h]) h0⟩⟩
theorem rd_get (l : List Nd) (i : Nat) (h : i < l.length) : rd_T25 l (i : Int) = l[i] := by
  unfold rd_T25
  rw [Int.toNat_natCast, List.getD_eq_getElem?_getD, List.getElem?_eq_getElem h]
  rfl
theorem EqF_l0 (a b : List Nd) (N : Nat) (hN : N ≤ 9223372036854775807) (hn : ∀ x ∈ a, x.f4.length ≤ N) (hl : a.length = b.length) (hb : a.length ≤ 9223372036854775807) : ∀ (m i k : Nat), a.length - i < m → m + N + 1 ≤ k → i ≤ a.length → ∃ r, api_Node_45.l0 k b a (a.length : Int) (i : Int) = some r ∧ (r = true ↔ a.drop i = b.drop i) := by
  intro m
  induction m with
  | zero => intro i k h; omega
  | succ m ih =>
    intro i k h hk hi
    obtain ⟨k, rfl⟩ : ∃ j, k = j + 1 := ⟨k - 1, by omega⟩
    simp only [api_Node_45.l0]
    by_cases hlt : i < a.length
    · have hn1 := hn a[i] (List.getElem_mem hlt)
      obtain ⟨r0, h0, h00⟩ := Same1_eq a[i] (b[i]'(by omega)) (by omega) k (by omega)
      rw [if_pos (by omega), if_pos (by omega), if_pos (by omega), if_pos (by omega), rd_get a i hlt, rd_get b i (by omega), h0, List.drop_eq_getElem_cons hlt, List.drop_eq_getElem_cons (show i < b.length by omega)]
      simp only [Option.bind_some]
      cases r0 with
      | true =>
        obtain ⟨r, h1, h2⟩ := ih (i + 1) k (by omega) (by omega) (by omega)
        have hw : wrap64 ((i : Int) + 1) = ((i + 1 : Nat) : Int) := by rw [wrap_id (by omega) (by omega)]; omega
        rw [if_pos rfl, hw, h1]
        exact ⟨r, rfl, h2.trans ⟨fun h3 => by rw [h3, h00.1 rfl], fun h3 => by injection h3⟩⟩
      | false =>
        rw [if_neg (by decide)]
        exact ⟨false, rfl, ⟨fun h3 => (by cases h3), fun h3 => by injection h3 with h4 h5; exact h00.2 h4⟩⟩
    · rw [if_neg (by omega), List.drop_eq_nil_of_le (by omega), List.drop_eq_nil_of_le (by omega)]
      exact ⟨true, rfl, by simp⟩
theorem Same_eq (a b : List Nd) (N : Nat) (hN : N ≤ 9223372036854775807) (hn : ∀ x ∈ a, x.f4.length ≤ N) (hb : a.length ≤ 9223372036854775807) (k : Nat) (hk : a.length + N + 2 ≤ k) : ∃ r, tree_Same.f k a b = some r ∧ (r = true ↔ a = b) := by
  unfold tree_Same.f api_Node_45.f
  by_cases h : (a.length : Int) = (b.length : Int)
  · rw [if_pos h]
    have e0 : (0 : Int) = ((0 : Nat) : Int) := rfl
    obtain ⟨r, h1, h2⟩ := EqF_l0 a b N hN hn (by omega) hb (a.length + 1) 0 k (by omega) (by omega) (by omega)
    rw [e0, h1]
    exact ⟨r, rfl, h2⟩
  · rw [if_neg h]
    exact ⟨false, rfl, ⟨fun h3 => (by cases h3), fun h3 => absurd (by rw [h3]) h⟩⟩
end Go.Proofs.Ytdelccahgchadaa
end
section
namespace Go.Proofs.Ytdelccahgchadaa
open Go.RowKit Go.Proofs.YtdelccahgchadaaW.PrintWords Go.Proofs.YtdelccahgchadaaW.PrintMore
set_option linter.unusedVariables false
section
variable {α : Type} (kd : α → Int)
theorem mach_ge (l : List α) (st : List Nat) (most : Nat) : most ≤ mach kd l st most := by rw [mach_max]; omega
theorem endW_split {l : List α} {c n : Nat} (h : endW kd l (c + 1) = some n) : ∃ m, endW kd l 1 = some m ∧ endW kd (l.drop m) c = some (n - m) ∧ m ≤ n ∧ 1 ≤ m ∧ m ≤ l.length := by
  rw [Nat.add_comm, endW_add] at h
  cases h1 : endW kd l 1 with
  | none => rw [h1] at h; cases h
  | some m =>
    rw [h1] at h
    obtain ⟨j, h2, h3⟩ := Option.map_eq_some_iff.1 h
    have hl := endW_le kd h1
    refine ⟨m, rfl, ?_, by omega, hl.2 (by omega), hl.1⟩
    rw [h2, show n - m = j by omega]
theorem depL_eq {l : List α} {m : Nat} (h : endW kd l 1 = some m) : depL kd l = mach kd l [] 0 := by unfold depL; rw [h]
theorem endW_seg {l : List α} {m : Nat} (h : endW kd l 1 = some m) : endW kd (l.take m) 1 = some (l.take m).length := by
  have hl := (endW_le kd h).1
  rw [endW_take kd h, List.length_take, Nat.min_eq_left hl]
theorem mach_forest {l : List α} {m : Nat} (c most : Nat) (h : endW kd l 1 = some m) : mach kd l [c + 1] most = (if c = 0 then max most (1 + depL kd (l.take m)) else mach kd (l.drop m) [c] (max most (1 + depL kd (l.take m)))) := by
  have hs := endW_seg kd h
  have := mach_shift kd (l.take m) [] [c + 1] (l.drop m) most (fun c hc => by cases hc) hs
  rw [List.take_append_drop, List.nil_append] at this
  rw [this, depL_eq kd hs]
  unfold fin
  simp only [dec, List.length_cons, List.length_nil, Nat.zero_add, Nat.add_sub_cancel]
  by_cases h0 : c = 0
  · rw [if_pos (by omega), if_pos h0]
  · rw [if_neg (by omega), if_neg h0]
theorem depL_cons {x : α} {r : List α} {m : Nat} (h : endW kd (x :: r) 1 = some m) : depL kd (x :: r) = (if (kd x).toNat = 0 then 1 else mach kd r [(kd x).toNat] 1) := by
  rw [depL_eq kd h]
  by_cases h0 : (kd x).toNat = 0
  · rw [mach_cons0 kd _ _ _ _ h0, if_pos h0]; rfl
  · rw [mach_consS kd _ _ _ _ h0, if_neg h0]; rfl
theorem endW_cons {x : α} {r : List α} {m : Nat} (h : endW kd (x :: r) 1 = some m) : ¬ kd x < 0 ∧ 1 ≤ m ∧ endW kd r (kd x).toNat = some (m - 1) := by
  simp only [endW] at h
  by_cases h0 : kd x < 0
  · rw [if_pos h0] at h; cases h
  · rw [if_neg h0, Nat.zero_add] at h
    obtain ⟨j, h1, h2⟩ := Option.map_eq_some_iff.1 h
    exact ⟨h0, by omega, by rw [h1, show m - 1 = j by omega]⟩
end
end Go.Proofs.Ytdelccahgchadaa
end
section
namespace Go.Proofs.Ytdelccahgchadaa.Pure
open Go.RowKit Go.Proofs.Ytdelccahgchadaa Go.Proofs.Ytdelccahgchadaa.P Go.Proofs.YtdelccahgchadaaW.PrintWords Go.Proofs.YtdelccahgchadaaW.PrintMore
set_option linter.unusedVariables false
theorem allN_pos : ∀ (l : List Nd) (i : Nat), 0 < i → allN i l = l.all fun x => mayN x && !headB x := by
  intro l
  induction l with
  | nil => intro i h; rfl
  | cons x l ih =>
    intro i h
    simp only [allN, List.all_cons]
    rw [ih (i + 1) (by omega), decide_eq_true h, Bool.and_true]
theorem allN_of_all {l : List Nd} (h : (l.all fun x => mayN x && !headB x) = true) : allN 0 l = true := by
  cases l with
  | nil => rfl
  | cons x l =>
    simp only [allN, List.all_cons] at h ⊢
    rw [allN_pos l (0 + 1) (by omega)]
    rw [Bool.and_eq_true, Bool.and_eq_true] at h
    rw [h.1.1, h.2]
    simp
theorem may_seg {l : List Nd} {p m : Nat} (hm : mayL l = true) (hp : 1 ≤ p) (he : endW kdT (l.drop p) 1 = some m) (hd : depL kdT ((l.drop p).take m) < depL kdT l) : mayL ((l.drop p).take m) = true := by
  obtain ⟨p1, p2, p3⟩ := mayL_parts hm
  unfold mayL
  rw [endW_seg kdT he, decide_eq_true rfl, decide_eq_true (by omega)]
  cases l with
  | nil => rw [List.drop_nil, List.take_nil]; rfl
  | cons x r =>
    obtain ⟨p, rfl⟩ : ∃ q, p = q + 1 := ⟨p - 1, by omega⟩
    simp only [allN] at p3
    rw [Bool.and_eq_true, allN_pos r (0 + 1) (by omega)] at p3
    rw [List.drop_succ_cons, allN_of_all]
    · rfl
    · rw [List.all_eq_true] at *
      intro y hy
      exact p3.2 y (List.mem_of_mem_drop (List.mem_of_mem_take hy))
theorem Parts_l0 (l : List Nd) (h80 : l.length ≤ 80) (hmay : mayL l = true) (N : Nat) (hN : N ≤ 9223372036854775807) (hn : ∀ x ∈ l, x.f4.length ≤ N) (x : Nd) (r : List Nd) (hx : l = x :: r) (ts : List Int) (hts : (ts.length : Int) = kdT x) : ∀ (c p j k : Nat) (acc : List Nd), ts.length = j + c → ts.drop j = (undP l c p).map (fun n : Nat => (n : Int)) → acc = l.take p → 1 ≤ p → p ≤ l.length → endW kdT (l.drop p) c = some (l.length - p) → (c = 0 ∨ ∃ most, mach kdT (l.drop p) [c] most ≤ depL kdT l) → N + 4 * c + 1000 ≤ k →
    reredoslaw08_TreeParts.l0 k l true ts acc (j : Int) = some true := by
  intro c
  induction c with
  | zero =>
    intro p j k acc hj hdr hacc hp1 hpl he hd hk
    obtain ⟨k, rfl⟩ : ∃ q, k = q + 1 := ⟨k - 1, by omega⟩
    rw [endW_zero] at he
    injection he with he
    have hlp : p = l.length := by omega
    rw [hlp, List.take_length] at hacc
    obtain ⟨b, h1, h2⟩ := Same_eq l l N hN hn (by omega) k (by omega)
    have hb := h2.2 rfl
    subst hb
    rw [reredoslaw08_TreeParts.l0, if_neg (by omega), if_pos rfl, hacc, h1]
    simp only [Option.bind_some]
    have hx0 : rd_T25 l 0 = x := by rw [hx]; rfl
    have hlen : 0 < (l.length : Int) := by rw [hx, List.length_cons]; omega
    rw [if_pos trivial, if_pos hlen, hx0, Kids_eq _ _ _ _ _ k (by omega)]
    simp only [Option.bind_some]
    have : (ts.length : Int) = kdB x.f0 x.f1 := hts
    rw [this]
    simp
  | succ c ih =>
    intro p j k acc hj hdr hacc hp1 hpl he hd hk
    obtain ⟨k, rfl⟩ : ∃ q, k = q + 2 := ⟨k - 2, by omega⟩
    obtain ⟨m, e1, e2, e3, e4, e5⟩ := endW_split kdT he
    rw [List.length_drop] at e5
    rw [List.drop_drop] at e2
    have hund : undP l (c + 1) p = p :: undP l c (p + m) := by simp only [undP]; rw [e1]
    rw [hund, List.map_cons] at hdr
    have hjl : j < ts.length := by omega
    have hget : ts[j] = (p : Int) ∧ ts.drop (j + 1) = (undP l c (p + m)).map (fun n : Nat => (n : Int)) := by
      rw [List.drop_eq_getElem_cons hjl] at hdr
      injection hdr with q1 q2
      exact ⟨q1, q2⟩
    have hrd : rd ts (j : Int) = (p : Int) := by
      unfold rd
      rw [Int.toNat_natCast, List.getD_eq_getElem?_getD, List.getElem?_eq_getElem hjl]
      exact hget.1
    have hE := End_eq l (by omega) p hpl k (by omega)
    rw [e1] at hE
    have hseg : (l.take (((p + m : Nat) : Int)).toNat).drop ((p : Int)).toNat = (l.drop p).take m := by
      rw [Int.toNat_natCast, Int.toNat_natCast, List.drop_take, show p + m - p = m by omega]
    obtain ⟨most, hmost⟩ : ∃ most, mach kdT (l.drop p) [c + 1] most ≤ depL kdT l := by
      rcases hd with h | h
      · omega
      · exact h
    have hmf := mach_forest kdT c most e1
    have hdep : depL kdT ((l.drop p).take m) < depL kdT l ∧ (c = 0 ∨ ∃ most, mach kdT (l.drop (p + m)) [c] most ≤ depL kdT l) := by
      by_cases h0 : c = 0
      · rw [if_pos h0] at hmf
        exact ⟨by omega, .inl h0⟩
      · rw [if_neg h0, List.drop_drop] at hmf
        have := mach_ge kdT (l.drop (p + m)) [c] (max most (1 + depL kdT ((l.drop p).take m)))
        exact ⟨by omega, .inr ⟨_, by rw [← hmf]; exact hmost⟩⟩
    have hms := may_seg hmay hp1 e1 hdep.1
    have hlen : ((l.drop p).take m).length = m := by rw [List.length_take, List.length_drop]; omega
    have hM := May_eqL ((l.drop p).take m) (by omega) k (by omega)
    have hD := Depth_eq ((l.drop p).take m) (by omega) k (by omega)
    have hD2 := Depth_eq l (by omega) k (by omega)
    rw [hms] at hM
    have hacc2 : acc ++ (l.drop p).take m = l.take (p + m) := by rw [hacc, List.take_add]
    have hbound : acc.length + ((l.drop p).take m).length < 1759218604441 := Nat.lt_of_le_of_lt (by rw [hacc, List.length_take, hlen]; omega : acc.length + ((l.drop p).take m).length ≤ 200) (by decide)
    have hrec := ih (p + m) (j + 1) k (l.take (p + m)) (by omega) hget.2 rfl (by omega) (by omega) (by rw [e2]; congr 1; omega) hdep.2 (by omega)
    rw [reredoslaw08_TreeParts.l0, if_pos (by omega), if_pos (by omega), hrd, if_neg (by omega), decide_eq_false (by omega), reredoslaw08_TreeParts.j2, if_neg (by decide), if_pos (by omega), if_pos (by omega), hrd, hE]
    simp only [Option.bind_some, outE]
    rw [if_pos trivial, if_neg (by omega), if_neg (by omega), if_pos (by omega), if_pos (by omega), if_pos (by omega), hseg, hM]
    simp only [Option.bind_some]
    rw [if_pos trivial, hD, hD2]
    simp only [Option.bind_some]
    rw [if_neg (by omega), if_pos hbound, hacc2]
    have hw : wrap64 ((j : Int) + 1) = ((j + 1 : Nat) : Int) := by
      have hb := kdB_bounds x.f0 x.f1
      have : (ts.length : Int) = kdB x.f0 x.f1 := hts
      clear hrd hE hseg hmf hM hD hD2 hacc2 hrec
      rw [wrap_id (by omega) (by omega)]; omega
    rw [hw]
    exact hrec
theorem TreeParts : reredoslaw08_TreeParts.Pure := by
  intro l0 hl
  obtain ⟨N, hNe⟩ : ∃ N : Nat, N = maxLen := ⟨_, rfl⟩
  have hN : N ≤ 9223372036854775807 := by rw [hNe]; decide
  rw [← hNe] at hl
  obtain ⟨K, hK⟩ : ∃ K : Nat, N + 100000 < K := ⟨N + 100001, by omega⟩
  obtain ⟨K, rfl⟩ : ∃ j, K = j + 1 := ⟨K - 1, by omega⟩
  refine ⟨K + 1, ?_⟩
  unfold reredoslaw08_TreeParts.f
  have hmx : l0.length ≤ 9223372036854775807 := Nat.le_trans hl.1 hN
  obtain ⟨fw, hf, hf80⟩ := Few_eq l0 hmx (K + 1) (by omega)
  rw [shown08_eq (K + 1) (by omega), hf]
  simp only [Option.bind_some]
  cases fw with
  | false => rw [if_neg (by decide)]; simp only [reredoslaw08_TreeParts.j0]; rw [if_pos trivial]
  | true =>
    have h80 := hf80 rfl
    rw [if_pos rfl, May_eqL l0 (by omega) (K + 1) (by omega)]
    simp only [Option.bind_some]
    cases hm : mayL l0 with
    | false => rw [if_neg (by decide)]; simp only [reredoslaw08_TreeParts.j0]; rw [if_pos trivial]
    | true =>
      rw [if_pos rfl]
      cases hl0 : l0 with
      | nil => simp only [reredoslaw08_TreeParts.j0]; rw [if_pos (by simp)]
      | cons x r =>
        rw [← hl0]
        have hlen : l0.length = r.length + 1 := by rw [hl0]; rfl
        have : ((l0.length : Int) == 0) = false := by rw [beq_eq_false_iff_ne]; omega
        rw [this]
        simp only [reredoslaw08_TreeParts.j0]
        rw [if_neg (by decide)]
        obtain ⟨p1, p2, p3⟩ := mayL_parts hm
        have e0 : (0 : Int) = ((0 : Nat) : Int) := rfl
        have hU := Under_eq l0 (by omega) 0 (by omega) K (by omega)
        rw [← e0] at hU
        have hx0 : rd_T25 l0 0 = x := by rw [hl0]; rfl
        rw [hU, hx0]
        simp only [Option.bind_some]
        rw [if_pos (by omega), Node_eq _ _ _ _ _ _ (by decide) (by decide) K (by omega)]
        simp only [Option.bind_some, List.flatten_nil]
        have hxx : (⟨x.f0, x.f1, x.f2, x.f3, x.f4⟩ : Nd) = x := rfl
        rw [hxx]
        have p1' := p1
        rw [hl0] at p1'
        obtain ⟨k1, k2, k3⟩ := endW_cons kdT p1'
        have hb := kdB_bounds x.f0 x.f1
        have hk1 : kdT x = kdB x.f0 x.f1 := rfl
        have hund : undL l0 0 = undP l0 (kdT x).toNat 1 := by
          unfold undL
          rw [List.drop_zero, p1]
          simp only [hl0]
        have hul : ∀ (c p : Nat), (undP l0 c p).length = c := by
          intro c
          induction c with
          | zero => intro p; rfl
          | succ c ih => intro p; simp only [undP, List.length_cons, ih]
        have hdr1 : l0.drop 1 = r := by rw [hl0]; rfl
        have hdc := depL_cons kdT p1'
        rw [← hl0] at hdc
        have hgo := Parts_l0 l0 h80 hm N hN (fun y hy => (hl.2 y hy).2.2.2.2.1) x r hl0 ((undL l0 0).map fun n : Nat => (n : Int)) (by rw [List.length_map, hund, hul]; omega) (kdT x).toNat 1 0 K (l0.take 1) (by rw [List.length_map, hund, hul]; omega) (by rw [List.drop_zero, hund]) rfl (by omega) (by omega) (by rw [hdr1, k3, hlen]; congr 1) (by
          by_cases h0 : (kdT x).toNat = 0
          · exact .inl h0
          · rw [if_neg h0] at hdc
            exact .inr ⟨1, by rw [hdr1, hdc]; exact Nat.le_refl _⟩) (by omega)
        rw [← e0] at hgo
        have ht1 : l0.take 1 = [x] := by rw [hl0]; rfl
        rw [ht1] at hgo
        exact hgo
end Go.Proofs.Ytdelccahgchadaa.Pure
end
section
namespace Go.Proofs.Ytdelccahgchadaa.treeParts
open Go.ChangeShapes Go.WideShapes Go.ChangeAt Go.RowKit Go.Proofs.YtdelccahgchadaaW.PrintWords Go.Proofs.Ytdelccahgchadaa.P
open Go.ChangeMaps (open_string shut_string)
set_option linter.unusedVariables false
theorem own : ownKnob Try.prog.godebug = none := by kernel_rfl
theorem laidOut : laidOutB Try.prog = true := by kernel_rfl
set_option maxRecDepth 100000 in
theorem lifted (os : Os) (started : os.Started) (H : Type) (enc : TypeId × Value → H) :
    ReturnsInHanded {} Try.checked os 6 .any (Rows.treePartsSpec.pre6 enc Try.prog Try.f6 Rows.treePartsRow.domain false) (Rows.treePartsSpec.post enc Try.prog Try.f6 false true false false) := by
  refine returnsInHanded_of_change_sized (C := Try.checked) own started (by kernel_rfl) Try.func6
    (ChangeSpec.witness6 (enc := enc) (C := Try.checked) false ⟨#[], #[.slice none 0 0], []⟩ 8 (by kernel_rfl) (by kernel_rfl) (by kernel_rfl) (by kernel_rfl)) ?_
  intro W base args ds gs before hval0 hW hcnd hsz0 _
  have hsz : (DataW.weightsEach Try.prog (Try.f6.params.toList ++ Rows.treePartsSpec.plain.varTypes Try.prog) (ds ++ gs)).all (· ≤ reachBytes) = true := hsz0
  have hval : ∀ (j : Nat) t v, Try.f6.params[j]? = some t → args[j]? = some v → Value.okWide Try.prog W .any base t v := hval0
  have hW' := hW
  obtain ⟨p, q, hA0, hV, rfl, hfz, hnd⟩ := hW
  have hA : DataW.TrodAll enc Try.prog W 0 (fun _ => true) true Try.f6.params.toList args.toList ds p := hA0
  rw [Try.params6] at hA hval hsz
  obtain ⟨v0, vs0, d0, ds0, p0, q0, hargs, rfl, rfl, h0, r0⟩ := trodAll_cons hA
  obtain ⟨rfl, rfl, rfl⟩ := trodAll_nil r0
  obtain rfl : args = #[v0] := by cases args; simp_all
  obtain ⟨rfl, rfl⟩ := trodVars_none hV
  have k0 := h0
  have lt0 := trod_places h0
  obtain ⟨A0, c0, l0, rfl, hc0, hr0, wf0⟩ := arg_slice Try.underlying22 (opens_slice Try.underlying22 (by kernel_rfl) (opens_iso (fun x : S25 => (x.f0, x.f1, x.f2, x.f3, x.f4)) (fun a => ⟨a.1, a.2.1, a.2.2.1, a.2.2.2.1, a.2.2.2.2⟩) (fun _ => rfl) (opens_struct Try.underlying25 (by kernel_rfl) (opensF_cons (by kernel_rfl) (by kernel_rfl) (opens_int Try.underlying3) (opensF_cons (by kernel_rfl) (by kernel_rfl) (opens_string Try.underlying9) (opensF_cons (by kernel_rfl) (by kernel_rfl) (opens_string Try.underlying9) (opensF_cons (by kernel_rfl) (by kernel_rfl) (opens_string Try.underlying9) (opensF_last (by kernel_rfl) (by kernel_rfl) (opens_slice Try.underlying23 (by kernel_rfl) (opens_string Try.underlying9)))))))))) (hval 0 22 v0 rfl rfl) h0
  clear hA0 hval0 hsz0 hsz
  obtain ⟨k_, hp_⟩ := Pure.TreeParts l0 wf0
  refine (reredoslaw08_TreeParts.calls k_ (fun _ => True) A0 c0 l0 true W (Kd.V_mk hc0 (fun W_ h_ => Kd.Heap.C (by repeat (first | exact Kd.heap_string | exact Kd.heap_int _ | exact Kd.heap_bool | apply Kd.heap_iso | apply Kd.heap_pair | apply Kd.heap_slice)) (fun k_ hk_ => h_ k_ trivial hk_) hr0)) hp_).mono fun e W' hpost => ?_
  obtain ⟨he, bel0⟩ := hpost
  have bel : Below W.heap.size W W' := by first | exact bel0 | exact bel0.below
  subst he
  exact ⟨_, rfl, _, _, _, [], _, [], hW', trodAll_mk1 (shut_bool Try.underlying4 _), (trodAll_cons_mk (Below.trod laidOut (by kernel_rfl) (of_decide_eq_true (by kernel_rfl)) k0 bel lt0) trodAll_mk0), rfl, bel.frame _, fun h => by cases h⟩
theorem over : Rows.treePartsRow.holds Try.pinned (OpenSpec.ofChange Rows.treePartsSpec) :=
  OpenClaim.holds_of_wide 6 Try.f6 rfl rfl rfl rfl rfl rfl rfl ⟨rfl, rfl, rfl, rfl, rfl⟩ rfl rfl rfl rfl rfl (by kernel_rfl) Try.func6 (by kernel_rfl)
    (of_decide_eq_true (by kernel_rfl)) (by unfold Func.isWrapper; first | (rw [if_pos (by decide +kernel)]; kernel_rfl) | (rw [if_neg (by decide +kernel)]; exact ⟨rfl, rfl⟩))
    (fun os started H enc _ => lifted os started H enc)
theorem proved : Rows.TreePartsSaid := over
#print axioms proved
end Go.Proofs.Ytdelccahgchadaa.treeParts
namespace Go.Proofs.Ytdelccahgchadaa
theorem treeParts_holds : Rows.TreePartsSaid := treeParts.proved
end Go.Proofs.Ytdelccahgchadaa
end
