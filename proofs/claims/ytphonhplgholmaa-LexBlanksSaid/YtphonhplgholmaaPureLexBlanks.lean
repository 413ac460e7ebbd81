/- LexBlanks: a line of two lines with a blank between has the parts of both. -/
import Derived.Test.YtphonhplgholmaaPx14
import Derived.Test.YtphonhplgholmaaGPLex
namespace Go.Proofs.Ytphonhplgholmaa.Pure
open Go.RowKit Go.Proofs.Ytphonhplgholmaa Go.Proofs.Ytphonhplgholmaa.P Go.Proofs.YtphonhplgholmaaW.PrintWords Go.Proofs.YtphonhplgholmaaW.PrintMore
theorem toks_same (xs : List S59) (hx : xs.length ≤ 1000) : ∀ (m i k : Nat), xs.length - i < m → m ≤ k → i ≤ xs.length → reredosref07_Toks.l0 k xs xs (i : Int) = some true := by
  intro m
  induction m with
  | zero => intro i k h; omega
  | succ m ih =>
    intro i k h hk hi
    obtain ⟨k, rfl⟩ : ∃ j, k = j + 1 := ⟨k - 1, by omega⟩
    simp only [reredosref07_Toks.l0]
    by_cases hlt : (i : Int) < (xs.length : Int)
    · rw [if_pos hlt, if_pos (by omega), if_pos hlt]
      have hw : wrap64 ((i : Int) + 1) = ((i + 1 : Nat) : Int) := by rw [wrap_id (by omega) (by omega)]; omega
      rw [hw]
      clear hw
      simp only [beq_self_eq_true, Bool.not_true, Bool.or_self]
      rw [if_neg (by decide)]
      exact ih (i + 1) k (by omega) (by omega) (by omega)
    · rw [if_neg hlt]
theorem loop_same (a0 : ByteArray) (ha : a0.size ≤ 255) (ts us : List Tk) (ht : ts.length ≤ 256) (hu : us.length ≤ 256) (hpos : ∀ u ∈ us, u.pos ≤ 256) : ∀ (m i k : Nat), us.length - i < m → m + 600 ≤ k → i ≤ us.length →
    reredoslaw07_LexBlanks.l0 k a0 true (ts.map encT) (us.map encT) ((ts ++ us.map (shiftT (a0.size + 1))).map encT) (i : Int) = some true := by
  intro m
  induction m with
  | zero => intro i k h; omega
  | succ m ih =>
    intro i k h hk hi
    obtain ⟨k, rfl⟩ : ∃ j, k = j + 1 := ⟨k - 1, by omega⟩
    simp only [reredoslaw07_LexBlanks.l0]
    have hz : ((ts ++ us.map (shiftT (a0.size + 1))).map encT).length = ts.length + us.length := by simp
    rw [hz]
    simp only [List.length_map]
    by_cases hlt : (i : Int) < (us.length : Int)
    · have hiu : i < us.length := by omega
      rw [if_pos hlt]
      have hw : wrap64 ((ts.length : Int) + (i : Int)) = ((ts.length + i : Nat) : Int) := by rw [wrap_id (by omega) (by omega)]; omega
      rw [hw]
      clear hw
      rw [if_pos (by omega), if_pos (by omega), if_pos (by omega), rd_map us i hiu, rd_map _ (ts.length + i) (by rw [List.length_append, List.length_map]; omega)]
      have hg : (ts ++ us.map (shiftT (a0.size + 1)))[ts.length + i]'(by rw [List.length_append, List.length_map]; omega) = shiftT (a0.size + 1) us[i] := by
        rw [List.getElem_append_right (by omega)]
        simp
      rw [hg]
      have hp := hpos us[i] (List.getElem_mem hiu)
      have hw1 : wrap64 ((us[i].pos : Int) + (a0.size : Int)) = ((us[i].pos + a0.size : Nat) : Int) := by rw [wrap_id (by omega) (by omega)]; omega
      have hw2 : wrap64 (((us[i].pos + a0.size : Nat) : Int) + 1) = ((us[i].pos + (a0.size + 1) : Nat) : Int) := by rw [wrap_id (by omega) (by omega)]; omega
      have hw3 : wrap64 ((i : Int) + 1) = ((i + 1 : Nat) : Int) := by rw [wrap_id (by omega) (by omega)]; omega
      have q1 : (encT (shiftT (a0.size + 1) us[i])).f0 = (encT us[i]).f0 := rfl
      have q2 : (encT (shiftT (a0.size + 1) us[i])).f1.toList = (encT us[i]).f1.toList := congrArg ByteArray.toList (rfl : mkB us[i].text = mkB us[i].text)
      have q3 : (encT (shiftT (a0.size + 1) us[i])).f2 = wrap64 (wrap64 ((encT us[i]).f2 + (a0.size : Int)) + 1) := by
        have : (encT us[i]).f2 = (us[i].pos : Int) := rfl
        rw [this, hw1, hw2]
        rfl
      rw [if_pos q1, if_pos q2, if_pos q3, hw3]
      clear hw1 hw2 hw3
      exact ih (i + 1) k (by omega) (by omega) (by omega)
    · rw [if_neg hlt, if_pos trivial, if_pos (by omega), if_pos (by omega)]
      have htk : ((ts ++ us.map (shiftT (a0.size + 1))).map encT).take ((ts.length : Int) : Int).toNat = ts.map encT := by
        rw [Int.toNat_natCast, List.map_append, List.take_append_of_le_length (by rw [List.length_map]; omega), List.take_of_length_le (by rw [List.length_map]; omega)]
      rw [htk]
      unfold reredosref07_Toks.f
      rw [if_pos rfl]
      have e0 : (0 : Int) = ((0 : Nat) : Int) := rfl
      rw [e0, toks_same (ts.map encT) (by rw [List.length_map]; omega) 300 0 k (by rw [List.length_map]; omega) (by omega) (by omega)]
      rfl
theorem LexBlanks : reredoslaw07_LexBlanks.Pure := by
  intro a0 a1 h0 h1
  obtain ⟨K, hK⟩ : ∃ K : Nat, 1000 < K := ⟨2000, by decide⟩
  refine ⟨K, ?_⟩
  unfold reredoslaw07_LexBlanks.f
  have hw : wrap64 ((a0.size : Int) + (a1.size : Int)) = (a0.size : Int) + (a1.size : Int) := wrap_id (by omega) (by omega)
  rw [shown_eq K (by omega), hw]
  clear hw
  simp only [Option.bind_some]
  by_cases hb : (a0.size : Int) + (a1.size : Int) > 255
  · rw [if_pos hb]
  · rw [if_neg hb, lex_eq a0 (by omega) K (by omega), lex_eq a1 (by omega) K (by omega)]
    simp only [Option.bind_some]
    have ex : (a0 ++ (⟨#[32]⟩ : ByteArray)) ++ a1 = mkB (L a0 ++ 32 :: L a1) := L_ext (by rw [L_append, L_append, L_mk, List.append_assoc]; rfl)
    have es : (a0 ++ (⟨#[32]⟩ : ByteArray)).size = a0.size + 1 := by rw [ByteArray.size_append]; rfl
    rw [if_pos (by omega), es, if_pos (by omega), ex, lex_eq _ (by rw [mkB_size, List.length_append, List.length_cons, ← L_size, ← L_size]; omega) K (by omega), L_mk, lexL_two]
    simp only [Option.bind_some]
    have hx := lexF_chain (L a0) ((L a0).length + 1) 0 (by omega) (by omega)
    have hy := lexF_chain (L a1) ((L a1).length + 1) 0 (by omega) (by omega)
    rw [List.drop_zero, ← L_size] at hx hy
    have ha : lexL (L a0) = lexF (a0.size + 1) 0 (L a0) := by unfold lexL; rw [← L_size]
    have hc : lexL (L a1) = lexF (a1.size + 1) 0 (L a1) := by unfold lexL; rw [← L_size]
    rw [ha, hc, ← L_size]
    revert hx hy
    cases lexF (a0.size + 1) 0 (L a0) with
    | inl e =>
      intro _ _
      simp only [outL]
      rw [if_neg (by decide), if_pos trivial]
      rfl
    | inr ts =>
      cases lexF (a1.size + 1) 0 (L a1) with
      | inl e =>
        intro _ he
        simp only [outL] at he ⊢
        have hw1 : wrap64 ((e : Int) + (a0.size : Int)) = ((e + a0.size : Nat) : Int) := by rw [wrap_id (by omega) (by omega)]; omega
        rw [hw1]
        clear hw1
        have hw2 : wrap64 (((e + a0.size : Nat) : Int) + 1) = ((e + (a0.size + 1) : Nat) : Int) := by rw [wrap_id (by omega) (by omega)]; omega
        rw [hw2]
        clear hw2
        simp
      | inr us =>
        intro hx hy
        simp only [outL] at hx hy ⊢
        have hpos : ∀ u ∈ us, u.pos ≤ 256 := by
          have : ∀ (l : List Tk) (e : Nat), Chain (L a1) e l → ∀ u ∈ l, u.pos ≤ (L a1).length := by
            intro l
            induction l with
            | nil => intro e _ u hu; cases hu
            | cons t l ih =>
              intro e hc u hu
              rcases List.mem_cons.1 hu with h | h
              · subst h; have := hc.2.1; omega
              · exact ih _ hc.2.2.2.2 u h
          intro u hu
          have := this us 0 hy.1 u hu
          rw [← L_size] at this
          omega
        have hw3 : wrap64 (((ts.map encT).length : Int) + ((us.map encT).length : Int)) = ((ts.length + us.length : Nat) : Int) := by rw [List.length_map, List.length_map, wrap_id (by omega) (by omega)]; omega
        rw [hw3]
        clear hw3
        have hz : (((ts ++ us.map (shiftT (a0.size + 1))).map encT).length : Int) = ((ts.length + us.length : Nat) : Int) := by simp
        rw [hz, if_pos trivial, if_pos trivial, if_pos trivial]
        obtain ⟨K, rfl⟩ : ∃ j, K = j + 1 := ⟨K - 1, by omega⟩
        simp only [reredoslaw07_LexBlanks.j0]
        rw [if_neg (by simp)]
        exact loop_same a0 (by omega) ts us (by omega) (by omega) hpos 300 0 K (by omega) (by omega) (by omega)
end Go.Proofs.Ytphonhplgholmaa.Pure
