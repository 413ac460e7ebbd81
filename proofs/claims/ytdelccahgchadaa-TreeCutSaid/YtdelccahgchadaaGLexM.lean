/- The lexer over lists of bytes: its laws, in plain lists. -/
import Derived.Test.YtdelccahgchadaaGLexL
namespace Go.Proofs.Ytdelccahgchadaa
open Go.RowKit Go.Lib Go.Proofs.Ytdelccahgchadaa.P Go.Proofs.YtdelccahgchadaaW.PrintWords Go.Proofs.YtdelccahgchadaaW.PrintMore
set_option linter.unusedVariables false
deriving instance DecidableEq for Sum
theorem low_ne {c : UInt8} (h : isLow (c.toNat : Int) = true) : c ≠ 32 := by rintro rfl; revert h; decide
/-- What a first byte says alone. -/
theorem first_loc (c : UInt8) (l m : Bs) : firstL (c :: l ++ 32 :: m) = firstL (c :: l) := by
  have e : c :: l ++ 32 :: m = (c :: l) ++ 32 :: m := rfl
  have et : trimC 95 (c :: l ++ 32 :: m) = trimC 95 (c :: l) ++ 32 :: m := by
    by_cases h : c = 95
    · simp [trimC, h]
    · simp [trimC, h]
  have e1 : runL isWordC (c :: l ++ 32 :: m) = runL isWordC (c :: l) := runL_append_stop _ (c :: l) m 32 (by decide)
  have e2 : runL isVerbC (c :: l ++ 32 :: m) = runL isVerbC (c :: l) := runL_append_stop _ (c :: l) m 32 (by decide)
  have e3 : runL isD (trimC 95 (c :: l) ++ 32 :: m) = runL isD (trimC 95 (c :: l)) := runL_append_stop _ _ m 32 (by decide)
  have hb := runL_le isD (trimC 95 (c :: l))
  have ht := trimC_len 95 (c :: l)
  have e4 : (c :: l ++ 32 :: m).length - (trimC 95 (c :: l) ++ 32 :: m).length = (c :: l).length - (trimC 95 (c :: l)).length := by
    rw [List.length_append, List.length_append]; omega
  unfold firstL
  simp only [List.cons_append]
  have e5 : c :: (l ++ 32 :: m) = c :: l ++ 32 :: m := rfl
  rw [e5, e1, e2, et, e3, e4]
  have e6 : (c :: l ++ 32 :: m).take ((c :: l).length - (trimC 95 (c :: l)).length + runL isD (trimC 95 (c :: l))) = (c :: l).take ((c :: l).length - (trimC 95 (c :: l)).length + runL isD (trimC 95 (c :: l))) := by
    rw [List.take_append_of_le_length (by omega)]
  rw [e6]
/-- Fuel plays no part. -/
theorem lexF_fuel : ∀ (m m' p : Nat) (l : Bs), l.length < m → l.length < m' → lexF m p l = lexF m' p l := by
  intro m
  induction m with
  | zero => intro m' p l h; omega
  | succ m ih =>
    intro m' p l h h'
    obtain ⟨m', rfl⟩ : ∃ j, m' = j + 1 := ⟨m' - 1, by omega⟩
    cases l with
    | nil => rfl
    | cons c l =>
      simp only [lexF]
      rw [List.length_cons] at h h'
      by_cases hc : c = 32
      · rw [if_pos hc, if_pos hc]; exact ih m' _ l (by omega) (by omega)
      · rw [if_neg hc, if_neg hc]
        by_cases hk : (firstL (c :: l)).1 = 0
        · rw [if_pos hk, if_pos hk]
        · rw [if_neg hk, if_neg hk]
          have hb := firstL_bounds c l hk
          rw [ih m' (p + (firstL (c :: l)).2) ((c :: l).drop (firstL (c :: l)).2) (by rw [List.length_drop, List.length_cons]; omega) (by rw [List.length_drop, List.length_cons]; omega)]
def shiftT (d : Nat) (t : Tk) : Tk := ⟨t.kind, t.text, t.pos + d⟩
theorem lexF_shift (d : Nat) : ∀ (m p : Nat) (l : Bs), lexF m (p + d) l = (match lexF m p l with | .inl e => .inl (e + d) | .inr ts => .inr (ts.map (shiftT d))) := by
  intro m
  induction m with
  | zero => intro p l; rfl
  | succ m ih =>
    intro p l
    cases l with
    | nil => rfl
    | cons c l =>
      simp only [lexF]
      by_cases hc : c = 32
      · rw [if_pos hc, if_pos hc, show p + d + 1 = (p + 1) + d by omega]; exact ih _ _
      · rw [if_neg hc, if_neg hc]
        by_cases hk : (firstL (c :: l)).1 = 0
        · rw [if_pos hk, if_pos hk]
        · rw [if_neg hk, if_neg hk, show p + d + (firstL (c :: l)).2 = (p + (firstL (c :: l)).2) + d by omega, ih]
          cases lexF m (p + (firstL (c :: l)).2) ((c :: l).drop (firstL (c :: l)).2) with
          | inl e => rfl
          | inr ts => rfl
/-- A line of two lines with a blank between. -/
theorem lexF_two : ∀ (N m p : Nat) (a b : Bs), a.length ≤ N → a.length + 1 + b.length < m → lexF m p (a ++ 32 :: b) = (match lexF m p a with | .inl e => .inl e | .inr ts => (match lexF m (p + a.length + 1) b with | .inl e => .inl e | .inr us => .inr (ts ++ us))) := by
  intro N
  induction N with
  | zero =>
    intro m p a b ha hm
    obtain rfl : a = [] := List.length_eq_zero_iff.1 (by omega)
    obtain ⟨m, rfl⟩ : ∃ j, m = j + 1 := ⟨m - 1, by omega⟩
    rw [List.nil_append]
    simp only [lexF]
    rw [if_pos trivial, List.length_nil, Nat.add_zero, lexF_fuel m (m + 1) (p + 1) b (by rw [List.length_nil] at hm; omega) (by rw [List.length_nil] at hm; omega)]
    cases lexF (m + 1) (p + 1) b with
    | inl e => rfl
    | inr us => rfl
  | succ N ih =>
    intro m p a b ha hm
    cases a with
    | nil => exact ih m p [] b (by simp) hm
    | cons c a =>
      obtain ⟨m, rfl⟩ : ∃ j, m = j + 1 := ⟨m - 1, by omega⟩
      rw [List.length_cons] at ha hm
      have hf := first_loc c a b
      rw [List.cons_append] at hf ⊢
      by_cases hc : c = 32
      · have e1 : lexF (m + 1) p (c :: (a ++ 32 :: b)) = lexF m (p + 1) (a ++ 32 :: b) := by simp only [lexF]; rw [if_pos hc]
        have e2 : lexF (m + 1) p (c :: a) = lexF m (p + 1) a := by simp only [lexF]; rw [if_pos hc]
        rw [e1, e2, ih m (p + 1) a b (by omega) (by omega), List.length_cons, show p + 1 + a.length + 1 = p + (a.length + 1) + 1 by omega, lexF_fuel m (m + 1) (p + (a.length + 1) + 1) b (by omega) (by omega)]
      · by_cases hk : (firstL (c :: a)).1 = 0
        · have e1 : lexF (m + 1) p (c :: (a ++ 32 :: b)) = .inl p := by simp only [lexF]; rw [if_neg hc, hf, if_pos hk]
          have e2 : lexF (m + 1) p (c :: a) = .inl p := by simp only [lexF]; rw [if_neg hc, if_pos hk]
          rw [e1, e2]
        · have hb := firstL_bounds c a hk
          obtain ⟨k, hk'⟩ : ∃ k, (firstL (c :: a)).1 = k := ⟨_, rfl⟩
          obtain ⟨n, hn⟩ : ∃ n, (firstL (c :: a)).2 = n := ⟨_, rfl⟩
          rw [hk'] at hk
          rw [hn, List.length_cons] at hb
          have ed : (c :: (a ++ 32 :: b)).drop n = (c :: a).drop n ++ 32 :: b := by
            rw [← List.cons_append, List.drop_append_of_le_length (by rw [List.length_cons]; omega)]
          have et : (c :: (a ++ 32 :: b)).take n = (c :: a).take n := by
            rw [← List.cons_append, List.take_append_of_le_length (by rw [List.length_cons]; omega)]
          have e1 : lexF (m + 1) p (c :: (a ++ 32 :: b)) = (match lexF m (p + n) ((c :: a).drop n ++ 32 :: b) with | .inl e => .inl e | .inr ts => .inr (⟨k, (c :: a).take n, p⟩ :: ts)) := by
            simp only [lexF]; rw [if_neg hc, hf, hk', hn, if_neg hk, ed, et]; cases lexF m (p + n) ((c :: a).drop n ++ 32 :: b) <;> rfl
          have e2 : lexF (m + 1) p (c :: a) = (match lexF m (p + n) ((c :: a).drop n) with | .inl e => .inl e | .inr ts => .inr (⟨k, (c :: a).take n, p⟩ :: ts)) := by
            simp only [lexF]; rw [if_neg hc, hk', hn, if_neg hk]; cases lexF m (p + n) ((c :: a).drop n) <;> rfl
          have hl : ((c :: a).drop n).length = a.length + 1 - n := by rw [List.length_drop, List.length_cons]
          rw [e1, e2, ih m (p + n) ((c :: a).drop n) b (by omega) (by omega), hl, List.length_cons, show p + n + (a.length + 1 - n) + 1 = p + (a.length + 1) + 1 by omega, lexF_fuel m (m + 1) (p + (a.length + 1) + 1) b (by omega) (by omega)]
          cases lexF m (p + n) ((c :: a).drop n) with
          | inl e => rfl
          | inr ts =>
            simp only []
            cases lexF (m + 1) (p + (a.length + 1) + 1) b with
            | inl e => rfl
            | inr us => rfl
def lexL (l : Bs) : Nat ⊕ List Tk := lexF (l.length + 1) 0 l
theorem lexL_two (a b : Bs) : lexL (a ++ 32 :: b) = (match lexL a with | .inl e => .inl e | .inr ts => (match lexL b with | .inl e => .inl (e + (a.length + 1)) | .inr us => .inr (ts ++ us.map (shiftT (a.length + 1))))) := by
  unfold lexL
  have hl : (a ++ 32 :: b).length = a.length + 1 + b.length := by rw [List.length_append, List.length_cons]; omega
  rw [hl, lexF_two a.length _ 0 a b (Nat.le_refl _) (by omega), lexF_fuel _ (a.length + 1) 0 a (by omega) (by omega), show 0 + a.length + 1 = 0 + (a.length + 1) by omega, lexF_shift, lexF_fuel _ (b.length + 1) 0 b (by omega) (by omega)]
  cases lexF (a.length + 1) 0 a with
  | inl e => rfl
  | inr ts =>
    simp only []
    cases lexF (b.length + 1) 0 b with
    | inl e => rfl
    | inr us => rfl
/-- A first part, cut out. -/
theorem first_cut (c : UInt8) (l : Bs) (h : (firstL (c :: l)).1 ≠ 0) : firstL ((c :: l).take (firstL (c :: l)).2) = firstL (c :: l) := by
  obtain ⟨k, hk⟩ : ∃ k, (firstL (c :: l)).1 = k := ⟨_, rfl⟩
  obtain ⟨n, hn⟩ : ∃ n, (firstL (c :: l)).2 = n := ⟨_, rfl⟩
  have hb := firstL_bounds c l h
  have hkn : firstL (c :: l) = (k, n) := by rw [← hk, ← hn]
  rw [hkn]
  rw [hn] at hb
  simp only []
  obtain ⟨j, rfl⟩ : ∃ j, n = j + 1 := ⟨n - 1, by omega⟩
  rw [List.take_succ_cons]
  unfold firstL at hkn ⊢
  simp only [] at hkn ⊢
  by_cases h1 : isLow (c.toNat : Int) = true
  · rw [if_pos h1] at hkn ⊢
    injection hkn with e1 e2
    rw [← e1, ← List.take_succ_cons, runL_take _ _ _ (by omega), e2]
  · rw [if_neg h1] at hkn ⊢
    by_cases h2 : isUp (c.toNat : Int) = true
    · rw [if_pos h2] at hkn ⊢
      injection hkn with e1 e2
      rw [← e1, ← List.take_succ_cons, runL_take _ _ _ (by omega), e2]
    · rw [if_neg h2] at hkn ⊢
      by_cases h3 : signsL.contains c = true
      · rw [if_pos h3] at hkn ⊢; exact hkn
      · rw [if_neg h3] at hkn ⊢
        by_cases h4 : advsL.contains c = true
        · rw [if_pos h4] at hkn ⊢; exact hkn
        · rw [if_neg h4] at hkn ⊢
          by_cases h5 : marksL.contains c = true
          · rw [if_pos h5] at hkn ⊢; exact hkn
          · rw [if_neg h5] at hkn ⊢
            by_cases h6 : (numberL ((c :: l).take ((c :: l).length - (trimC 95 (c :: l)).length + runL isD (trimC 95 (c :: l))))).isSome = true
            · rw [if_pos h6] at hkn
              injection hkn with e1 e2
              rw [e2] at h6
              have hj : j ≤ l.length := by rw [List.length_cons] at hb; omega
              have hr := runL_le isD (trimC 95 (c :: l))
              have key : (c :: l.take j).length - (trimC 95 (c :: l.take j)).length + runL isD (trimC 95 (c :: l.take j)) = j + 1 := by
                by_cases hc : c = 95
                · have t1 : trimC 95 (c :: l) = l := by simp [trimC, hc]
                  have t2 : trimC 95 (c :: l.take j) = l.take j := by simp [trimC, hc]
                  rw [t1, List.length_cons] at e2
                  rw [t2, List.length_cons, runL_take _ _ _ (by omega), List.length_take, Nat.min_eq_left hj]
                  omega
                · have t1 : trimC 95 (c :: l) = c :: l := by simp [trimC, hc]
                  have t2 : trimC 95 (c :: l.take j) = c :: l.take j := by simp [trimC, hc]
                  rw [t1] at e2
                  rw [t2, ← List.take_succ_cons, runL_take _ _ _ (by omega)]
                  omega
              rw [key]
              have e7 : (c :: l.take j).take (j + 1) = (c :: l).take (j + 1) := by
                rw [← List.take_succ_cons, List.take_take, Nat.min_self]
              rw [e7, if_pos h6, ← e1]
            · rw [if_neg h6] at hkn
              injection hkn with e1 e2
              exact absurd (hk.trans e1.symm) h
/-- What holds of each part of a line. -/
def Part (t : Tk) : Prop := firstL t.text = (t.kind, t.text.length) ∧ 1 ≤ t.kind ∧ t.kind ≤ 6 ∧ t.text ≠ [] ∧ t.text.head? ≠ some 32
/-- Parts, one behind the other, from a place on. -/
def Chain (all : Bs) : Nat → List Tk → Prop
  | _, [] => True
  | e, t :: ts => e ≤ t.pos ∧ t.pos + t.text.length ≤ all.length ∧ (all.drop t.pos).take t.text.length = t.text ∧ Part t ∧ Chain all (t.pos + t.text.length) ts
theorem chain_le {all : Bs} {e e' : Nat} {ts : List Tk} (h : Chain all e ts) (he : e' ≤ e) : Chain all e' ts := by
  cases ts with
  | nil => trivial
  | cons t ts => exact ⟨Nat.le_trans he h.1, h.2⟩
theorem lexF_chain (all : Bs) : ∀ (m p : Nat), p ≤ all.length → all.length - p < m → (match lexF m p (all.drop p) with | .inl e => e ≤ all.length | .inr ts => Chain all p ts ∧ ts.length ≤ all.length - p ∧ (ts.map (·.text.length)).sum ≤ all.length - p) := by
  intro m
  induction m with
  | zero => intro p _ h; omega
  | succ m ih =>
    intro p hp hm
    cases hl : all.drop p with
    | nil => simp only [lexF]; exact ⟨trivial, by simp, by simp⟩
    | cons c l =>
      have hlen : all.length - p = l.length + 1 := by rw [← List.length_drop, hl, List.length_cons]
      simp only [lexF]
      by_cases hc : c = 32
      · rw [if_pos hc]
        have hd : all.drop (p + 1) = l := by rw [← List.drop_drop, hl]; rfl
        have := ih (p + 1) (by omega) (by omega)
        rw [hd] at this
        revert this
        cases lexF m (p + 1) l with
        | inl e => exact id
        | inr ts => simp only []; exact fun h => ⟨chain_le h.1 (by omega), by omega, by omega⟩
      · rw [if_neg hc]
        by_cases hk : (firstL (c :: l)).1 = 0
        · rw [if_pos hk]; exact hp
        · rw [if_neg hk]
          have hb := firstL_bounds c l hk
          have hcut := first_cut c l hk
          obtain ⟨k, hk'⟩ : ∃ k, (firstL (c :: l)).1 = k := ⟨_, rfl⟩
          obtain ⟨n, hn⟩ : ∃ n, (firstL (c :: l)).2 = n := ⟨_, rfl⟩
          have hkn : firstL (c :: l) = (k, n) := by rw [← hk', ← hn]
          rw [hkn] at hb hcut ⊢
          rw [hkn] at hk
          simp only [List.length_cons] at hb hcut hk ⊢
          have hd : all.drop (p + n) = (c :: l).drop n := by rw [← List.drop_drop, hl]
          have := ih (p + n) (by omega) (by omega)
          rw [hd] at this
          have htl : ((c :: l).take n).length = n := by rw [List.length_take, List.length_cons]; omega
          revert this
          cases lexF m (p + n) ((c :: l).drop n) with
          | inl e => exact id
          | inr ts =>
            simp only []
            intro h
            refine ⟨⟨Nat.le_refl _, ?_, ?_, ⟨?_, ?_, hb.2.2, ?_, ?_⟩, ?_⟩, ?_, ?_⟩
            · simp only [htl]; omega
            · simp only [htl, hl]
            · simp only [htl]; exact hcut
            · simp only []; omega
            · simp only []; intro h0; rw [h0] at htl; simp at htl; omega
            · simp only []
              obtain ⟨j, rfl⟩ : ∃ j, n = j + 1 := ⟨n - 1, by omega⟩
              rw [List.take_succ_cons]
              simpa using hc
            · simp only [htl]; exact h.1
            · rw [List.length_cons]; omega
            · rw [List.map_cons, List.sum_cons, htl]; omega
/-- A part alone. -/
theorem lexF_part (t : Tk) (h : Part t) (m p : Nat) (hm : t.text.length < m) : lexF m p t.text = .inr [⟨t.kind, t.text, p⟩] := by
  obtain ⟨h1, h2, h3, h4, h5⟩ := h
  obtain ⟨m, rfl⟩ : ∃ j, m = j + 1 := ⟨m - 1, by omega⟩
  cases ht : t.text with
  | nil => exact absurd ht h4
  | cons c l =>
    rw [ht] at h1 h5 hm
    have hc : c ≠ 32 := by intro h; exact h5 (by rw [h]; rfl)
    simp only [lexF]
    rw [if_neg hc, h1]
    simp only []
    rw [if_neg (by omega), List.drop_length]
    obtain ⟨m, rfl⟩ : ∃ j, m = j + 1 := ⟨m - 1, by rw [List.length_cons] at hm; omega⟩
    simp only [lexF, List.take_length]
def joinT : List Bs → Bs
  | [] => []
  | [x] => x
  | x :: y :: l => x ++ 32 :: joinT (y :: l)
theorem joinT_eq (l : List Bs) : Lib.join l [32] = joinT l := by
  induction l with
  | nil => rfl
  | cons x l ih =>
    cases l with
    | nil => simp [Lib.join, joinT]
    | cons y l =>
      have e : Lib.join (x :: y :: l) [32] = x ++ ([32] ++ Lib.join (y :: l) [32]) := by simp [Lib.join, List.intercalate, List.intersperse]
      rw [e, ih]; rfl
theorem joinT_len (l : List Bs) : (joinT l).length ≤ (l.map (·.length)).sum + l.length := by
  induction l with
  | nil => simp [joinT]
  | cons x l ih =>
    cases l with
    | nil => simp [joinT]
    | cons y l =>
      simp only [joinT, List.length_append, List.length_cons, List.map_cons, List.sum_cons] at ih ⊢
      omega
/-- A line's parts, joined, have the same parts again. -/
theorem lexL_again : ∀ (ts : List Tk), (∀ t ∈ ts, Part t) → ∃ us, lexL (joinT (ts.map (·.text))) = .inr us ∧ us.map (fun t => (t.kind, t.text)) = ts.map (fun t => (t.kind, t.text)) := by
  intro ts
  induction ts with
  | nil => intro _; exact ⟨[], rfl, rfl⟩
  | cons t ts ih =>
    intro h
    obtain ⟨us, e1, e2⟩ := ih fun x hx => h x (List.mem_cons_of_mem _ hx)
    have ht := lexF_part t (h t List.mem_cons_self)
    cases ts with
    | nil => exact ⟨[⟨t.kind, t.text, 0⟩], ht _ _ (by simp [joinT]), rfl⟩
    | cons y ts =>
      have ht0 : lexL t.text = .inr [⟨t.kind, t.text, 0⟩] := ht _ _ (by omega)
      refine ⟨⟨t.kind, t.text, 0⟩ :: us.map (shiftT (t.text.length + 1)), ?_, ?_⟩
      · simp only [List.map_cons, joinT] at e1 ⊢
        rw [lexL_two, ht0, e1]
        rfl
      · rw [List.map_cons, List.map_cons, List.map_map, ← e2]
        rfl
theorem fig_cases {c : UInt8} (h : isFig c = true) : c = 48 ∨ c = 49 ∨ c = 50 ∨ c = 51 ∨ c = 52 ∨ c = 53 ∨ c = 54 ∨ c = 55 ∨ c = 56 ∨ c = 57 := by
  unfold isFig at h
  simp only [Bool.and_eq_true, decide_eq_true_eq] at h
  have : ∀ d : UInt8, c.toNat = d.toNat → c = d := fun d h => UInt8.toNat_inj.1 h
  have h10 : c.toNat = 48 ∨ c.toNat = 49 ∨ c.toNat = 50 ∨ c.toNat = 51 ∨ c.toNat = 52 ∨ c.toNat = 53 ∨ c.toNat = 54 ∨ c.toNat = 55 ∨ c.toNat = 56 ∨ c.toNat = 57 := by omega
  rcases h10 with h | h | h | h | h | h | h | h | h | h
  · exact .inl (this 48 h)
  · exact .inr (.inl (this 49 h))
  · exact .inr (.inr (.inl (this 50 h)))
  · exact .inr (.inr (.inr (.inl (this 51 h))))
  · exact .inr (.inr (.inr (.inr (.inl (this 52 h)))))
  · exact .inr (.inr (.inr (.inr (.inr (.inl (this 53 h))))))
  · exact .inr (.inr (.inr (.inr (.inr (.inr (.inl (this 54 h)))))))
  · exact .inr (.inr (.inr (.inr (.inr (.inr (.inr (.inl (this 55 h))))))))
  · exact .inr (.inr (.inr (.inr (.inr (.inr (.inr (.inr (.inl (this 56 h)))))))))
  · exact .inr (.inr (.inr (.inr (.inr (.inr (.inr (.inr (.inr (this 57 h)))))))))
/-- A figure is no word, verb, sign, adverb, mark, blank; nor what stands for less than 0. -/
theorem fig_plain {c : UInt8} (h : isFig c = true) : isLow (c.toNat : Int) = false ∧ isUp (c.toNat : Int) = false ∧ signsL.contains c = false ∧ advsL.contains c = false ∧ marksL.contains c = false ∧ c ≠ 95 ∧ c ≠ 32 ∧ c ≠ 45 := by
  rcases fig_cases h with h | h | h | h | h | h | h | h | h | h <;> subst h <;> decide
/-- A number as a part is told back, and is a part alone. -/
theorem number_back (n : Bs) (h : mayB n = true) : ∃ s, literalL n = some s ∧ numberL s = some n ∧ Part ⟨1, s, 0⟩ ∧ s.length ≤ n.length := by
  unfold literalL
  rw [if_pos h]
  have hm := h
  unfold mayB at hm
  simp only [Bool.and_eq_true, decide_eq_true_eq] at hm
  obtain ⟨⟨⟨h1, h2⟩, h3⟩, h4⟩ := hm
  by_cases hf : trimC 45 n = n
  · simp only [if_pos hf]
    rw [hf] at h1 h2 h3 h4
    cases n with
    | nil => simp at h1
    | cons c l =>
      have hc : isFig c = true := by unfold figs at h4; rw [List.all_cons, Bool.and_eq_true] at h4; exact h4.1
      obtain ⟨p1, p2, p3, p4, p5, p6, p7, p8⟩ := fig_plain hc
      have ht : trimC 95 (c :: l) = c :: l := by simp [trimC, p6]
      have hn : numberL (c :: l) = some (c :: l) := by
        unfold numberL
        rw [ht]
        simp only []
        rw [if_pos trivial, h4, h]
        rfl
      refine ⟨c :: l, rfl, hn, ⟨?_, by simp, by simp, by simp, by simpa using p7⟩, Nat.le_refl _⟩
      unfold firstL
      simp only []
      rw [p1, p2, p3, p4, p5, ht, Nat.sub_self, Nat.zero_add, (figs_run _).1 h4, List.take_length, hn]
      rfl
  · simp only [if_neg hf]
    cases n with
    | nil => exact absurd rfl hf
    | cons c f =>
      have hc : c = 45 := by
        by_cases hc : c = 45
        · exact hc
        · exact absurd (by simp [trimC, hc]) hf
      subst hc
      have ht : trimC 45 (45 :: f) = f := by simp [trimC]
      rw [ht] at h1 h2 h3 h4 hf ⊢
      have ht2 : trimC 95 (95 :: f) = f := by simp [trimC]
      have hne : f ≠ 95 :: f := fun h => by have := congrArg List.length h; simp at this
      have hn : numberL (95 :: f) = some (45 :: f) := by
        unfold numberL
        rw [ht2]
        simp only []
        rw [if_neg hne, h4, h]
        rfl
      refine ⟨95 :: f, rfl, hn, ⟨?_, by simp, by simp, by simp, by simp⟩, Nat.le_refl _⟩
      unfold firstL
      simp only []
      have q1 : isLow ((95 : UInt8).toNat : Int) = false := by decide
      have q2 : isUp ((95 : UInt8).toNat : Int) = false := by decide
      have q3 : signsL.contains 95 = false := by decide
      have q4 : advsL.contains 95 = false := by decide
      have q5 : marksL.contains 95 = false := by decide
      rw [q1, q2, q3, q4, q5, ht2, (figs_run _).1 h4]
      have e : (95 :: f : Bs).length - f.length + f.length = (95 :: f : Bs).length := by rw [List.length_cons]; omega
      rw [e, List.take_length, hn]
      rfl
end Go.Proofs.Ytdelccahgchadaa
