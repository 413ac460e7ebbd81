/- LexAgain: a line's parts, joined, have the same parts again; each stands in the line where it says. -/
import Derived.Test.YtphonhplgholmaaPx15
import Derived.Test.YtphonhplgholmaaGPLex
namespace Go.Proofs.Ytphonhplgholmaa.Pure
open Go.RowKit Go.Proofs.Ytphonhplgholmaa Go.Proofs.Ytphonhplgholmaa.P Go.Proofs.YtphonhplgholmaaW.PrintWords Go.Proofs.YtphonhplgholmaaW.PrintMore
theorem join_l0 (ts : List Tk) (ht : ts.length ≤ 256) : ∀ (m i k : Nat), ts.length - i < m → m ≤ k → i ≤ ts.length →
    lex_Join.l0 k ((ts.take i).map fun t => mkB t.text) (ts.map encT) (ts.length : Int) (i : Int) = strings_Join.f (ts.map fun t => mkB t.text) (⟨#[32]⟩ : ByteArray) := by
  intro m
  induction m with
  | zero => intro i k h; omega
  | succ m ih =>
    intro i k h hk hi
    obtain ⟨k, rfl⟩ : ∃ j, k = j + 1 := ⟨k - 1, by omega⟩
    simp only [lex_Join.l0, List.length_map]
    by_cases hlt : (i : Int) < (ts.length : Int)
    · have hil : i < ts.length := by omega
      have hac : (ts.take i).length < 8796093022208 := Nat.lt_of_le_of_lt (by rw [List.length_take]; omega : (ts.take i).length ≤ 256) (by decide)
      rw [if_pos hlt, if_pos (by omega), if_pos hlt, if_pos hac, rd_map ts i hil]
      have hw : wrap64 ((i : Int) + 1) = ((i + 1 : Nat) : Int) := by rw [wrap_id (by omega) (by omega)]; omega
      rw [hw]
      clear hw
      have := ih (i + 1) k (by omega) (by omega) (by omega)
      rw [List.take_succ_eq_append_getElem hil, List.map_append] at this
      exact this
    · rw [if_neg hlt]
      have e : ts.take i = ts := List.take_of_length_le (by omega)
      rw [e]
      cases strings_Join.f (ts.map fun t => mkB t.text) (⟨#[32]⟩ : ByteArray) with
      | none => rfl
      | some x => rfl
theorem join_eq (ts : List Tk) (ht : ts.length ≤ 256) (hl : (ts.map (·.text.length)).sum ≤ 256) (k : Nat) (hk : 300 < k) : lex_Join.f k (ts.map encT) = some (mkB (joinT (ts.map (·.text)))) := by
  unfold lex_Join.f
  have := join_l0 ts ht 300 0 k (by omega) (by omega) (by omega)
  rw [List.take_zero, List.map_nil] at this
  rw [List.length_map]
  have e0 : (0 : Int) = ((0 : Nat) : Int) := rfl
  rw [e0, this]
  unfold strings_Join.f joinB
  have e1 : (ts.map fun t => mkB t.text).map (·.data.toList) = ts.map (·.text) := by
    rw [List.map_map]; rfl
  have e2 : (⟨#[32]⟩ : ByteArray).data.toList = [32] := rfl
  rw [e1, e2, joinT_eq]
  have hj := joinT_len (ts.map (·.text))
  rw [List.map_map, List.length_map] at hj
  have hj2 : (joinT (ts.map (·.text))).length ≤ 512 := by
    have : (ts.map ((·.length) ∘ (·.text))).sum = (ts.map (·.text.length)).sum := rfl
    omega
  have b1 : (ts.map fun t => mkB t.text).length ≤ 140737488355328 := Nat.le_trans (by rw [List.length_map]; exact ht) (by decide)
  have b2 : (joinT (ts.map (·.text))).length ≤ 140737488355328 := Nat.le_trans hj2 (by decide)
  rw [if_pos ⟨b1, b2⟩]
theorem cmp_l1 (ts us : List Tk) (hu : us.length = ts.length) (ht : ts.length ≤ 256) (h : us.map (fun t => (t.kind, t.text)) = ts.map (fun t => (t.kind, t.text))) : ∀ (m i k : Nat), ts.length - i < m → m ≤ k → i ≤ ts.length →
    reredoslaw07_LexAgain.l1 k true (ts.map encT) (us.map encT) (i : Int) = some true := by
  intro m
  induction m with
  | zero => intro i k h; omega
  | succ m ih =>
    intro i k h1 hk hi
    obtain ⟨k, rfl⟩ : ∃ j, k = j + 1 := ⟨k - 1, by omega⟩
    simp only [reredoslaw07_LexAgain.l1, List.length_map]
    by_cases hlt : (i : Int) < (us.length : Int)
    · have hiu : i < us.length := by omega
      have hit : i < ts.length := by omega
      rw [if_pos hlt, if_pos (by omega), if_pos (by omega), rd_map ts i hit, rd_map us i hiu]
      have hg : (us[i].kind, us[i].text) = (ts[i].kind, ts[i].text) := by
        have := congrArg (fun l => l[i]?) h
        simp only [List.getElem?_map, List.getElem?_eq_getElem hiu, List.getElem?_eq_getElem hit, Option.map_some] at this
        exact Option.some.inj this
      injection hg with g1 g2
      have hw : wrap64 ((i : Int) + 1) = ((i + 1 : Nat) : Int) := by rw [wrap_id (by omega) (by omega)]; omega
      rw [hw]
      clear hw
      have q1 : (encT us[i]).f0 = (encT ts[i]).f0 := congrArg (fun n : Nat => (n : Int)) g1
      have q2 : (encT us[i]).f1.toList = (encT ts[i]).f1.toList := congrArg (fun l : Bs => (mkB l).toList) g2
      rw [if_pos q1, if_pos q2]
      exact ih (i + 1) k (by omega) (by omega) (by omega)
    · rw [if_neg hlt]
theorem drop_nil_chain {ts : List Tk} {i : Nat} (h : ts.length ≤ i) : ts.drop i = [] := List.drop_eq_nil_of_le h
theorem stand_l0 (a0 : ByteArray) (ha : a0.size ≤ 256) (ts : List Tk) (ht : ts.length ≤ 256) (hl : (ts.map (·.text.length)).sum ≤ 256) (hP : ∀ t ∈ ts, Part t) : ∀ (m i e k : Nat), ts.length - i < m → m + 700 ≤ k → i ≤ ts.length → e ≤ 256 → Chain (L a0) e (ts.drop i) →
    reredoslaw07_LexAgain.l0 k a0 true (ts.map encT) (e : Int) (i : Int) = some true := by
  intro m
  induction m with
  | zero => intro i e k h; omega
  | succ m ih =>
    intro i e k h hk hi he hc
    obtain ⟨k, rfl⟩ : ∃ j, k = j + 1 := ⟨k - 1, by omega⟩
    simp only [reredoslaw07_LexAgain.l0, List.length_map]
    by_cases hlt : (i : Int) < (ts.length : Int)
    · have hit : i < ts.length := by omega
      rw [List.drop_eq_getElem_cons hit] at hc
      obtain ⟨c1, c2, c3, c4, c5⟩ := hc
      obtain ⟨t, hts⟩ : ∃ t, ts[i] = t := ⟨_, rfl⟩
      rw [if_pos hlt, if_pos (by omega), rd_map ts i hit]
      rw [hts] at c1 c2 c3 c4 c5 ⊢
      rw [← L_size] at c2
      simp only [encT, mkB_size]
      have hw : wrap64 ((t.pos : Int) + (t.text.length : Int)) = ((t.pos + t.text.length : Nat) : Int) := by rw [wrap_id (by omega) (by omega)]; omega
      rw [hw]
      clear hw
      have hw3 : wrap64 ((i : Int) + 1) = ((i + 1 : Nat) : Int) := by rw [wrap_id (by omega) (by omega)]; omega
      rw [hw3]
      clear hw3
      have hne : ¬ (mkB t.text).toList = [] := by rw [toList_L, L_mk]; exact c4.2.2.2.1
      have hx : (a0.extract (t.pos : Int).toNat ((t.pos + t.text.length : Nat) : Int).toNat).toList = (mkB t.text).toList := by
        rw [toList_L, toList_L, L_extract, L_mk, Int.toNat_natCast, Int.toNat_natCast, Nat.add_sub_cancel_left]
        exact c3
      have k1 := c4.2.1
      have k2 := c4.2.2.1
      rw [if_neg (by omega), if_neg (by omega), if_neg hne, if_pos (by omega), if_pos (by omega), if_pos (by omega), if_pos hx, if_neg (by omega), if_neg (by omega)]
      exact ih (i + 1) (t.pos + t.text.length) k (by omega) (by omega) (by omega) (by omega) c5
    · rw [if_neg hlt, join_eq ts ht hl k (by omega)]
      simp only [Option.bind_some]
      by_cases hb : (joinT (ts.map (·.text))).length ≤ 256
      · obtain ⟨us, u1, u2⟩ := lexL_again ts hP
        rw [lex_eq _ (by rw [mkB_size]; exact hb) k (by omega), L_mk, u1]
        have hu : us.length = ts.length := by have := congrArg List.length u2; simpa using this
        simp only [Option.bind_some, outL, List.length_map]
        rw [if_pos trivial, if_pos (by omega)]
        have e0 : (0 : Int) = ((0 : Nat) : Int) := rfl
        rw [e0]
        exact cmp_l1 ts us hu ht u2 300 0 k (by omega) (by omega) (by omega)
      · rw [lex_big _ (by rw [mkB_size]; omega)]
        rfl
theorem LexAgain : reredoslaw07_LexAgain.Pure := by
  intro a0 h0
  obtain ⟨K, hK⟩ : ∃ K : Nat, 1000 < K := ⟨2000, by decide⟩
  refine ⟨K, ?_⟩
  unfold reredoslaw07_LexAgain.f
  rw [shown_eq K (by omega)]
  simp only [Option.bind_some]
  by_cases hb : a0.size ≤ 256
  · rw [lex_eq a0 hb K (by omega)]
    have hx := lexF_chain (L a0) ((L a0).length + 1) 0 (by omega) (by omega)
    rw [List.drop_zero, ← L_size] at hx
    have ha : lexL (L a0) = lexF (a0.size + 1) 0 (L a0) := by unfold lexL; rw [← L_size]
    rw [ha]
    revert hx
    cases lexF (a0.size + 1) 0 (L a0) with
    | inl e =>
      intro he
      simp only [outL, Option.bind_some] at he ⊢
      rw [if_neg (by decide), if_pos trivial, if_pos (show (([] : List S59).length : Int) = 0 from rfl), if_pos (by omega)]
      have : (e : Int) ≤ (a0.size : Int) := by omega
      rw [decide_eq_true this]
    | inr ts =>
      intro hx
      simp only [outL, Option.bind_some] at hx ⊢
      rw [if_pos trivial]
      have hP : ∀ t ∈ ts, Part t := by
        have : ∀ (l : List Tk) (e : Nat), Chain (L a0) e l → ∀ u ∈ l, Part u := by
          intro l
          induction l with
          | nil => intro e _ u hu; cases hu
          | cons t l ih =>
            intro e hc u hu
            rcases List.mem_cons.1 hu with h | h
            · subst h; exact hc.2.2.2.1
            · exact ih _ hc.2.2.2.2 u h
        exact this ts 0 hx.1
      exact stand_l0 a0 hb ts (by omega) (by omega) hP 300 0 0 K (by omega) (by omega) (by omega) (by omega) (by rw [List.drop_zero]; exact hx.1)
  · rw [lex_big a0 (by omega)]
    simp only [Option.bind_some]
    rw [if_neg (by decide), if_pos trivial, if_pos (show (([] : List S59).length : Int) = 0 from rfl), if_pos (by omega)]
    have : (0 : Int) ≤ (a0.size : Int) := by omega
    rw [decide_eq_true this]
end Go.Proofs.Ytphonhplgholmaa.Pure
