/- The lexer's functions, printed, in plain words. -/
import Derived.Test.YtdelccahgchadaaGLexM
import Derived.Test.YtdelccahgchadaaGNum
import Derived.Test.YtdelccahgchadaaPx6
namespace Go.Proofs.Ytdelccahgchadaa
open Go.RowKit Go.Lib Go.Proofs.Ytdelccahgchadaa.P Go.Proofs.YtdelccahgchadaaW.PrintWords Go.Proofs.YtdelccahgchadaaW.PrintMore
set_option linter.unusedVariables false
abbrev mkB (l : Bs) : ByteArray := ⟨l.toArray⟩
theorem mkB_L (s : ByteArray) : mkB (L s) = s := L_ext rfl
theorem trimP (s : ByteArray) (c : UInt8) : strings_TrimPrefix.f s ⟨#[c]⟩ = some (mkB (trimC c (L s))) := by
  unfold strings_TrimPrefix.f
  have : (⟨#[c]⟩ : ByteArray).data.toList = [c] := rfl
  rw [this, trimC_eq]
theorem mkB_size (l : Bs) : (mkB l).size = l.length := by simp [ByteArray.size]
theorem bt_head (c : UInt8) (l : Bs) : bt (mkB (c :: l)) 0 = (c.toNat : Int) := by
  have := L_bt (mkB (c :: l)) 0 (by simp)
  exact this
theorem allFig_L (s : ByteArray) : allFig s = figs (L s) := rfl
theorem byte_iff (c d : UInt8) : ((c.toNat : Int) = (d.toNat : Int)) ↔ c = d := by
  constructor
  · intro h; exact UInt8.toNat_inj.1 (by omega)
  · rintro rfl; rfl
theorem May_eq (s : ByteArray) : num_May.f s = some (mayB (L s)) := by
  unfold num_May.f mayB
  rw [trimP]
  simp only [Option.bind_some, mkB_size]
  obtain ⟨f, hf⟩ : ∃ f, trimC 45 (L s) = f := ⟨_, rfl⟩
  rw [hf]
  cases f with
  | nil => simp
  | cons c f =>
    rw [if_neg (by rw [List.length_cons]; omega)]
    by_cases h : (c :: f).length ≤ 100
    · rw [if_neg (by omega), if_pos (by rw [List.length_cons]; omega), bt_head]
      unfold ContainsFunc_May.f
      rw [allFig_L, L_mk]
      have e1 : decide (1 ≤ (c :: f).length) = true := by simp
      have e2 : decide ((c :: f).length ≤ 100) = true := by simpa using h
      rw [e1, e2]
      by_cases hc : c = 48
      · subst hc
        rw [if_pos (by decide), toList_L]
        by_cases h0 : L s = [48]
        · rw [if_pos h0, h0]; simp
        · rw [if_neg h0]
          have : (L s == [48]) = false := by simpa using h0
          rw [this]; simp
      · have hne : ¬ ((c.toNat : Int) = 48) := fun h' => hc ((byte_iff c 48).1 h')
        rw [if_neg hne]
        have : ((c :: f).head? == some 48) = false := by simpa using hc
        rw [this]; simp
    · rw [if_pos (by omega)]
      have e2 : decide ((c :: f).length ≤ 100) = false := by simpa using h
      rw [e2]; simp
/-- A text, if there is one. -/
def outN (o : Option Bs) : ByteArray × Bool := match o with | some n => (mkB n, true) | none => (⟨#[]⟩, false)
theorem number_eq (s : ByteArray) (hs : s.size ≤ 140737488351232) (k : Nat) (hk : 1 ≤ k) : lex_Number.f k s = some (outN (numberL (L s))) := by
  obtain ⟨k, rfl⟩ : ∃ j, k = j + 1 := ⟨k - 1, by omega⟩
  unfold lex_Number.f numberL
  rw [trimP]
  simp only [Option.bind_some, mkB_size, toList_L, L_mk]
  obtain ⟨f, hf⟩ : ∃ f, trimC 95 (L s) = f := ⟨_, rfl⟩
  have hl := trimC_len 95 (L s)
  rw [← L_size] at hl
  rw [hf] at hl ⊢
  have hj : ∀ n : Bs, lex_Number.j0 (k + 1) (mkB f) (mkB n) = some (outN (if figs f && mayB n then some n else none)) := by
    intro n
    simp only [lex_Number.j0, run_figure.f, runO, May_eq, L_mk, mkB_size]
    rw [if_pos (by omega), runN_eq, L_mk]
    simp only [Option.bind_some]
    by_cases h : figs f = true
    · rw [h, if_pos (by rw [(figs_run f).1 h])]
      cases mayB n with
      | true => rfl
      | false => rfl
    · rw [if_neg (fun h' => h ((figs_run f).2 (by omega)))]
      have : figs f = false := by simpa using h
      rw [this]; rfl
  by_cases h : f = L s
  · rw [if_pos h, if_pos h, hj]
  · rw [if_neg h, if_neg h, if_pos (by omega)]
    have e : (⟨#[45]⟩ : ByteArray) ++ mkB f = mkB (45 :: f) := L_ext (by rw [L_append]; rfl)
    rw [e, hj]
theorem indexB_iff (l : Bs) (c : UInt8) : ∃ t, strings_IndexByte.f (mkB l) (c.toNat : Int) = some t ∧ (t ≥ 0 ↔ l.contains c = true) := by
  refine ⟨_, rfl, ?_⟩
  have e : ((c.toNat : Int).toNat.toUInt8) = c := Lib.byte_back' c
  have e2 : (mkB l).data.toList = l := rfl
  rw [e, e2, Lib.contains_iff_indexByte]
  simp
theorem first_eq (s : ByteArray) (h0 : 0 < s.size) (hs : s.size ≤ 256) (k : Nat) (hk : 1 ≤ k) : lex_first.f k s = some (((firstL (L s)).1 : Int), ((firstL (L s)).2 : Int)) := by
  obtain ⟨l, hl⟩ : ∃ l, L s = l := ⟨_, rfl⟩
  obtain rfl : s = mkB l := by rw [← hl, mkB_L]
  clear hl
  rw [mkB_size] at h0 hs
  cases l with
  | nil => simp at h0
  | cons c l =>
    unfold lex_first.f firstL
    simp only [L_mk]
    rw [if_pos (by rw [mkB_size]; omega), bt_head]
    have hS : lex_small.f (c.toNat : Int) = some (isLow (c.toNat : Int)) := by
      unfold lex_small.f isLow
      by_cases h : (c.toNat : Int) ≥ 97
      · rw [if_pos h]; congr 1; rw [Bool.eq_iff_iff, decide_eq_true_iff, decide_eq_true_iff]; omega
      · rw [if_neg h]; congr 1; rw [Bool.eq_iff_iff, decide_eq_true_iff]; simp; omega
    have hG : lex_great.f (c.toNat : Int) = some (isUp (c.toNat : Int)) := by
      unfold lex_great.f isUp
      by_cases h : (c.toNat : Int) ≥ 65
      · rw [if_pos h]; congr 1; rw [Bool.eq_iff_iff, decide_eq_true_iff, decide_eq_true_iff]; omega
      · rw [if_neg h]; congr 1; rw [Bool.eq_iff_iff, decide_eq_true_iff]; simp; omega
    rw [hS, hG]
    simp only [Option.bind_some]
    by_cases h1 : isLow (c.toNat : Int) = true
    · rw [if_pos h1, if_pos h1]
      simp only [run_word.f, runO]
      rw [if_pos (by rw [mkB_size]; omega)]
      rfl
    rw [if_neg h1, if_neg h1]
    by_cases h2 : isUp (c.toNat : Int) = true
    · rw [if_pos h2, if_pos h2]
      simp only [run_verb.f, runO]
      rw [if_pos (by rw [mkB_size]; omega)]
      rfl
    rw [if_neg h2, if_neg h2]
    obtain ⟨t3, e3, i3⟩ := indexB_iff signsL c
    obtain ⟨t4, e4, i4⟩ := indexB_iff advsL c
    obtain ⟨t5, e5, i5⟩ := indexB_iff marksL c
    have e3' : strings_IndexByte.f (⟨#[43, 45, 42, 37, 33, 38, 124, 60, 62, 61, 126, 44, 35, 94, 36, 63, 64]⟩ : ByteArray) (c.toNat : Int) = some t3 := e3
    have e4' : strings_IndexByte.f (⟨#[39, 47, 92, 46, 96]⟩ : ByteArray) (c.toNat : Int) = some t4 := e4
    have e5' : strings_IndexByte.f (⟨#[40, 41, 91, 93, 123, 125, 58]⟩ : ByteArray) (c.toNat : Int) = some t5 := e5
    rw [e3', e4', e5', trimP]
    simp only [Option.bind_some, L_mk]
    by_cases h3 : t3 ≥ 0
    · rw [if_pos h3, if_pos (i3.1 h3)]; rfl
    rw [if_neg h3, if_neg (fun h => h3 (i3.2 h))]
    by_cases h4 : t4 ≥ 0
    · rw [if_pos h4, if_pos (i4.1 h4)]; rfl
    rw [if_neg h4, if_neg (fun h => h4 (i4.2 h))]
    by_cases h5 : t5 ≥ 0
    · rw [if_pos h5, if_pos (i5.1 h5)]; rfl
    rw [if_neg h5, if_neg (fun h => h5 (i5.2 h))]
    have hl := trimC_len 95 (c :: l)
    obtain ⟨f, hf⟩ : ∃ f, trimC 95 (c :: l) = f := ⟨_, rfl⟩
    rw [hf] at hl ⊢
    have hr := runL_le isD f
    have er : run_figure.f (mkB f) = some (runL isD f : Int) := by
      simp only [run_figure.f, runO]
      rw [if_pos (by rw [mkB_size]; omega)]
      rfl
    rw [er]
    simp only [Option.bind_some, mkB_size]
    obtain ⟨n, hn⟩ : ∃ n, (c :: l).length - f.length + runL isD f = n := ⟨_, rfl⟩
    have hw : wrap64 (wrap64 (((c :: l).length : Int) - (f.length : Int)) + (runL isD f : Int)) = (n : Int) := by
      rw [wrap_id (a := ((c :: l).length : Int) - (f.length : Int)) (by omega) (by omega), wrap_id (by omega) (by omega)]; omega
    rw [hw, if_pos (by omega), if_pos (by omega)]
    have hx : (mkB (c :: l)).extract 0 (n : Int).toNat = mkB ((c :: l).take n) := L_ext (by rw [L_extract]; simp [L_mk])
    rw [hx, number_eq _ (by rw [mkB_size, List.length_take]; omega) k hk, L_mk, hn]
    simp only [Option.bind_some]
    cases hN : numberL ((c :: l).take n) with
    | none => rfl
    | some m => rfl
def encT (t : Tk) : S71 := ⟨(t.kind : Int), mkB t.text, (t.pos : Int)⟩
def outL (o : Nat ⊕ List Tk) : List S71 × Int × Int := match o with | .inl e => ([], (e : Int), 2) | .inr ts => (ts.map encT, 0, 0)
theorem lex_l0 (s : ByteArray) (hs : s.size ≤ 256) : ∀ (m k p : Nat) (acc : List S71), p ≤ s.size → s.size - p < m → s.size - p + 1 < k → acc.length ≤ p →
    lex_Lex.l0 k s acc (p : Int) = some (match lexF m p ((L s).drop p) with | .inl e => ([], (e : Int), 2) | .inr ts => (acc ++ ts.map encT, 0, 0)) := by
  intro m
  induction m with
  | zero => intro k p acc _ h; omega
  | succ m ih =>
    intro k p acc hp hm hk ha
    obtain ⟨k, rfl⟩ : ∃ j, k = j + 1 := ⟨k - 1, by omega⟩
    have hlen : ((L s).drop p).length = s.size - p := by rw [List.length_drop, ← L_size]
    simp only [lex_Lex.l0]
    cases hl : (L s).drop p with
    | nil =>
      rw [hl, List.length_nil] at hlen
      rw [if_neg (by omega)]
      simp [lexF]
    | cons c l =>
      rw [hl, List.length_cons] at hlen
      have hpl : p < (L s).length := by rw [← L_size]; omega
      have hg : (L s)[p] = c := by
        have := List.drop_eq_getElem_cons hpl
        rw [hl] at this
        injection this with h1 h2
        exact h1.symm
      rw [if_pos (by omega), if_pos (by omega), if_pos (by decide), L_bt s p hpl, hg]
      have e32 : bt (⟨#[32]⟩ : ByteArray) 0 = ((32 : UInt8).toNat : Int) := by decide
      rw [e32]
      simp only [lexF]
      by_cases hc : c = 32
      · rw [if_pos (by rw [hc]), if_pos hc, wrap_id (by omega) (by omega)]
        have := ih k (p + 1) acc (by omega) (by omega) (by omega) (by omega)
        have hd : (L s).drop (p + 1) = l := by rw [← List.drop_drop, hl]; rfl
        rw [hd] at this
        exact_mod_cast this
      · rw [if_neg (fun h => hc ((byte_iff c 32).1 h)), if_neg hc, if_pos (by omega)]
        have hx : s.extract (p : Int).toNat s.size = mkB (c :: l) := L_ext (by rw [L_end, L_mk, Int.toNat_natCast, hl])
        rw [hx, first_eq _ (by rw [mkB_size, List.length_cons]; omega) (by rw [mkB_size, List.length_cons]; omega) k (by omega), L_mk]
        simp only [Option.bind_some]
        by_cases h0 : (firstL (c :: l)).1 = 0
        · rw [if_pos (by omega), if_pos h0]
        · have hb := firstL_bounds c l h0
          rw [if_neg (by omega), if_neg h0]
          obtain ⟨kk, hkk⟩ : ∃ kk, (firstL (c :: l)).1 = kk := ⟨_, rfl⟩
          obtain ⟨n, hn⟩ : ∃ n, (firstL (c :: l)).2 = n := ⟨_, rfl⟩
          rw [hkk, hn] at hb ⊢
          rw [List.length_cons] at hb
          have hw : wrap64 ((p : Int) + (n : Int)) = ((p + n : Nat) : Int) := by rw [wrap_id (by omega) (by omega)]; omega
          have hacc : acc.length < 4398046511104 := Nat.lt_of_le_of_lt ha (Nat.lt_of_le_of_lt hp (Nat.lt_of_le_of_lt hs (by decide)))
          rw [hw]
          clear hw
          rw [if_pos (by omega), if_pos (by omega), if_pos hacc]
          have hy : s.extract (p : Int).toNat ((p + n : Nat) : Int).toNat = mkB ((c :: l).take n) := L_ext (by
            rw [L_extract, L_mk, Int.toNat_natCast, Int.toNat_natCast, hl, Nat.add_sub_cancel_left])
          rw [hy]
          have hd : (L s).drop (p + n) = (c :: l).drop n := by rw [← List.drop_drop, hl]
          have := ih k (p + n) (acc ++ [(⟨(kk : Int), mkB ((c :: l).take n), (p : Int)⟩ : S71)]) (by omega) (by omega) (by omega) (by rw [List.length_append, List.length_singleton]; omega)
          rw [hd] at this
          rw [this]
          cases lexF m (p + n) ((c :: l).drop n) with
          | inl e => rfl
          | inr ts => simp [encT]
theorem lex_eq (s : ByteArray) (hs : s.size ≤ 256) (k : Nat) (hk : 258 < k) : lex_Lex.f k s = some (outL (lexL (L s))) := by
  unfold lex_Lex.f lexL
  rw [if_neg (by omega)]
  have := lex_l0 s hs (s.size + 1) k 0 [] (by omega) (by omega) (by omega) (by simp)
  rw [List.drop_zero] at this
  have e : ((0 : Nat) : Int) = 0 := rfl
  rw [e] at this
  rw [this, ← L_size]
  cases lexF (s.size + 1) 0 (L s) with
  | inl e => rfl
  | inr ts => rfl
theorem lex_big (s : ByteArray) (hs : 256 < s.size) (k : Nat) : lex_Lex.f k s = some ([], 0, 8) := by
  unfold lex_Lex.f
  rw [if_pos (by omega)]
theorem rd_map (ts : List Tk) (i : Nat) (h : i < ts.length) : rd_T71 (ts.map encT) (i : Int) = encT ts[i] := by
  unfold rd_T71
  rw [Int.toNat_natCast, List.getD_eq_getElem?_getD, List.getElem?_map, List.getElem?_eq_getElem h]
  rfl
end Go.Proofs.Ytdelccahgchadaa
