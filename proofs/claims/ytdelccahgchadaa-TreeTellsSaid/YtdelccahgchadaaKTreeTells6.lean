/- The law TreeTells: its row, proved; all that it rests on stands in the texts ahead of it. No conditions. -/
import Derived.Test.YtdelccahgchadaaKTreeTells5
import Derived.Test.YtdelccahgchadaaRows
set_option linter.unusedVariables false
set_option linter.unusedSimpArgs false
section
namespace Go.Proofs.Ytdelccahgchadaa
open Go.RowKit Go.Lib Go.Proofs.Ytdelccahgchadaa.P Go.Proofs.YtdelccahgchadaaW.PrintWords Go.Proofs.YtdelccahgchadaaW.PrintMore
set_option linter.unusedVariables false
def kindL (l : Bs) : Nat :=
  match l with
  | [] => 0
  | c :: r =>
    if isLow (c.toNat : Int) = true ∧ (r.all fun d => isWordC (d.toNat : Int)) = true then 2
    else if isUp (c.toNat : Int) = true ∧ (r.all fun d => isVerbC (d.toNat : Int)) = true then 3
    else if r = [] ∧ signsL.contains c = true then 4
    else if r = [] ∧ advsL.contains c = true then 5
    else if r = [] ∧ marksL.contains c = true then 6
    else if (c = 95 ∨ isD (c.toNat : Int) = true) ∧ (r.all fun d => isD (d.toNat : Int)) = true then 1
    else 0
theorem runL_take_all (p : Int → Bool) : ∀ (l : Bs) (n : Nat), n ≤ l.length → ((l.take n).all (fun d => p (d.toNat : Int)) = true ↔ n ≤ runL p l) := by
  intro l
  induction l with
  | nil => intro n h; rw [List.length_nil] at h; obtain rfl : n = 0 := (by omega); simp
  | cons c l ih =>
    intro n h
    rw [List.length_cons] at h
    cases n with
    | zero => simp
    | succ n =>
      rw [List.take_succ_cons, List.all_cons, runL_cons, Bool.and_eq_true, ih n (by omega)]
      by_cases hc : p (c.toNat : Int) = true
      · rw [if_pos hc]
        exact ⟨fun h1 => by omega, fun h1 => ⟨hc, by omega⟩⟩
      · rw [if_neg hc]
        exact ⟨fun h1 => absurd h1.1 hc, fun h1 => by omega⟩
def longL (l : Bs) : Nat × Nat :=
  match l with
  | [] => (0, 0)
  | c :: r =>
    if isLow (c.toNat : Int) = true then (2, runL isWordC r + 1)
    else if isUp (c.toNat : Int) = true then (3, runL isVerbC r + 1)
    else if signsL.contains c then (4, 1)
    else if advsL.contains c then (5, 1)
    else if marksL.contains c then (6, 1)
    else if c = 95 ∨ isD (c.toNat : Int) = true then (1, runL isD r + 1)
    else (0, 0)
theorem plain_no {c : UInt8} (h : signsL.contains c = true ∨ advsL.contains c = true ∨ marksL.contains c = true) : isLow (c.toNat : Int) = false ∧ isUp (c.toNat : Int) = false ∧ isD (c.toNat : Int) = false ∧ c ≠ 95 := by
  have : c ∈ signsL ∨ c ∈ advsL ∨ c ∈ marksL := by
    rcases h with h | h | h
    · exact .inl (by simpa using h)
    · exact .inr (.inl (by simpa using h))
    · exact .inr (.inr (by simpa using h))
  revert this
  simp only [signsL, advsL, marksL, List.mem_cons, List.not_mem_nil, or_false]
  intro this
  rcases this with (rfl | rfl | rfl | rfl | rfl | rfl | rfl | rfl | rfl | rfl | rfl | rfl | rfl | rfl | rfl | rfl | rfl) | (rfl | rfl | rfl | rfl | rfl) | (rfl | rfl | rfl | rfl | rfl | rfl | rfl) <;> decide
theorem low_up {c : Int} (h : isLow c = true) : isUp c = false := by
  unfold isLow at h
  unfold isUp
  have := of_decide_eq_true h
  exact decide_eq_false (by omega)
theorem kind_take (c : UInt8) (r : Bs) (n : Nat) (hn : n ≤ r.length) : kindL ((c :: r).take (n + 1)) = (if n + 1 ≤ (longL (c :: r)).2 then (longL (c :: r)).1 else 0) := by
  rw [List.take_succ_cons]
  simp only [kindL]
  have hnil : r.take n = [] ↔ n = 0 := by
    rw [List.take_eq_nil_iff]
    constructor
    · intro h
      rcases h with h | h
      · exact h
      · rw [h, List.length_nil] at hn; omega
    · intro h; exact .inl h
  simp only [hnil]
  have hW := runL_take_all isWordC r n hn
  have hV := runL_take_all isVerbC r n hn
  have hD := runL_take_all isD r n hn
  by_cases h1 : isLow (c.toNat : Int) = true
  · have h2 := low_up h1
    have hp : ¬ (signsL.contains c = true ∨ advsL.contains c = true ∨ marksL.contains c = true) := fun h => by rw [(plain_no h).1] at h1; cases h1
    have h6 : ¬ (c = 95 ∨ isD (c.toNat : Int) = true) := by
      rintro (h | h)
      · subst h; revert h1; decide
      · unfold isLow at h1; unfold isD at h
        have a1 := of_decide_eq_true h1; have a2 := of_decide_eq_true h; omega
    have hl : longL (c :: r) = (2, runL isWordC r + 1) := by simp only [longL]; rw [if_pos h1]
    rw [hl]
    simp only [h1, true_and, hW]
    by_cases hw : n ≤ runL isWordC r
    · rw [if_pos hw, if_pos (by omega)]
    · rw [if_neg hw, if_neg (fun h => by rw [h2] at h; cases h.1), if_neg (fun h => hp (.inl h.2)), if_neg (fun h => hp (.inr (.inl h.2))), if_neg (fun h => hp (.inr (.inr h.2))), if_neg (fun h => h6 h.1), if_neg (by omega)]
  · rw [if_neg (fun h => h1 h.1)]
    by_cases h2 : isUp (c.toNat : Int) = true
    · have hp : ¬ (signsL.contains c = true ∨ advsL.contains c = true ∨ marksL.contains c = true) := fun h => by rw [(plain_no h).2.1] at h2; cases h2
      have h6 : ¬ (c = 95 ∨ isD (c.toNat : Int) = true) := by
        rintro (h | h)
        · subst h; revert h2; decide
        · unfold isUp at h2; unfold isD at h
          have a1 := of_decide_eq_true h2; have a2 := of_decide_eq_true h; omega
      have hl : longL (c :: r) = (3, runL isVerbC r + 1) := by simp only [longL]; rw [if_neg h1, if_pos h2]
      rw [hl]
      simp only [h2, true_and, hV]
      by_cases hw : n ≤ runL isVerbC r
      · rw [if_pos hw, if_pos (by omega)]
      · rw [if_neg hw, if_neg (fun h => hp (.inl h.2)), if_neg (fun h => hp (.inr (.inl h.2))), if_neg (fun h => hp (.inr (.inr h.2))), if_neg (fun h => h6 h.1), if_neg (by omega)]
    · rw [if_neg (fun h => h2 h.1)]
      have one : ∀ (q : Prop) [Decidable q] (v : Nat), (signsL.contains c = true ∨ advsL.contains c = true ∨ marksL.contains c = true) → ¬ ((c = 95 ∨ isD (c.toNat : Int) = true) ∧ ((r.take n).all fun d => isD (d.toNat : Int)) = true) := by
        intro q _ v h hh
        obtain ⟨_, _, q3, q4⟩ := plain_no h
        rcases hh.1 with h | h
        · exact q4 h
        · rw [q3] at h; cases h
      by_cases h3 : signsL.contains c = true
      · have h6 := one True 0 (.inl h3)
        have hl : longL (c :: r) = (4, 1) := by simp only [longL]; rw [if_neg h1, if_neg h2, if_pos h3]
        rw [hl]
        by_cases hw : n = 0
        · rw [if_pos ⟨hw, h3⟩, if_pos (by omega)]
        · rw [if_neg (fun h => hw h.1), if_neg (fun h => hw h.1), if_neg (fun h => hw h.1), if_neg h6, if_neg (by omega)]
      · rw [if_neg (fun h => h3 h.2)]
        by_cases h4 : advsL.contains c = true
        · have h6 := one True 0 (.inr (.inl h4))
          have hl : longL (c :: r) = (5, 1) := by simp only [longL]; rw [if_neg h1, if_neg h2, if_neg h3, if_pos h4]
          rw [hl]
          by_cases hw : n = 0
          · rw [if_pos ⟨hw, h4⟩, if_pos (by omega)]
          · rw [if_neg (fun h => hw h.1), if_neg (fun h => hw h.1), if_neg h6, if_neg (by omega)]
        · rw [if_neg (fun h => h4 h.2)]
          by_cases h5 : marksL.contains c = true
          · have h6 := one True 0 (.inr (.inr h5))
            have hl : longL (c :: r) = (6, 1) := by simp only [longL]; rw [if_neg h1, if_neg h2, if_neg h3, if_neg h4, if_pos h5]
            rw [hl]
            by_cases hw : n = 0
            · rw [if_pos ⟨hw, h5⟩, if_pos (by omega)]
            · rw [if_neg (fun h => hw h.1), if_neg h6, if_neg (by omega)]
          · rw [if_neg (fun h => h5 h.2)]
            by_cases h6 : c = 95 ∨ isD (c.toNat : Int) = true
            · have hl : longL (c :: r) = (1, runL isD r + 1) := by simp only [longL]; rw [if_neg h1, if_neg h2, if_neg h3, if_neg h4, if_neg h5, if_pos h6]
              rw [hl]
              simp only [h6, true_and, hD]
              by_cases hw : n ≤ runL isD r
              · rw [if_pos hw, if_pos (by omega)]
              · rw [if_neg hw, if_neg (by omega)]
            · have hl : longL (c :: r) = (0, 0) := by simp only [longL]; rw [if_neg h1, if_neg h2, if_neg h3, if_neg h4, if_neg h5, if_neg h6]
              rw [hl, if_neg (fun h => h6 h.1)]
              simp
theorem first_long (c : UInt8) (r : Bs) : firstL (c :: r) = (if (longL (c :: r)).1 = 0 then (0, 0) else if (longL (c :: r)).1 = 1 ∧ (numberL ((c :: r).take (longL (c :: r)).2)).isNone = true then (0, 0) else longL (c :: r)) := by
  simp only [firstL]
  by_cases h1 : isLow (c.toNat : Int) = true
  · have hl : longL (c :: r) = (2, runL isWordC r + 1) := by simp only [longL]; rw [if_pos h1]
    rw [hl, if_pos h1, runL_cons, if_pos (by unfold isWordC; rw [h1]; rfl)]; rfl
  · rw [if_neg h1]
    by_cases h2 : isUp (c.toNat : Int) = true
    · have hl : longL (c :: r) = (3, runL isVerbC r + 1) := by simp only [longL]; rw [if_neg h1, if_pos h2]
      rw [hl, if_pos h2, runL_cons, if_pos (by unfold isVerbC; rw [h2]; simp)]; rfl
    · rw [if_neg h2]
      by_cases h3 : signsL.contains c = true
      · have hl : longL (c :: r) = (4, 1) := by simp only [longL]; rw [if_neg h1, if_neg h2, if_pos h3]
        rw [hl, if_pos h3]; rfl
      · rw [if_neg h3]
        by_cases h4 : advsL.contains c = true
        · have hl : longL (c :: r) = (5, 1) := by simp only [longL]; rw [if_neg h1, if_neg h2, if_neg h3, if_pos h4]
          rw [hl, if_pos h4]; rfl
        · rw [if_neg h4]
          by_cases h5 : marksL.contains c = true
          · have hl : longL (c :: r) = (6, 1) := by simp only [longL]; rw [if_neg h1, if_neg h2, if_neg h3, if_neg h4, if_pos h5]
            rw [hl, if_pos h5]; rfl
          · rw [if_neg h5]
            by_cases h6 : c = 95
            · subst h6
              have hl : longL ((95 : UInt8) :: r) = (1, runL isD r + 1) := by simp only [longL]; rw [if_neg h1, if_neg h2, if_neg h3, if_neg h4, if_neg h5, if_pos (.inl trivial)]
              have e1 : trimC 95 ((95 : UInt8) :: r) = r := by simp [trimC]
              have e2 : ((95 : UInt8) :: r).length - r.length + runL isD r = runL isD r + 1 := by rw [List.length_cons]; omega
              rw [hl, e1, e2]
              simp only []
              cases numberL (((95 : UInt8) :: r).take (runL isD r + 1)) with
              | none => rfl
              | some x => rfl
            · have e1 : trimC 95 (c :: r) = c :: r := by simp [trimC, h6]
              have e2 : (c :: r).length - (c :: r).length + runL isD (c :: r) = runL isD (c :: r) := by omega
              rw [e1, e2]
              by_cases h7 : isD (c.toNat : Int) = true
              · have hl : longL (c :: r) = (1, runL isD r + 1) := by simp only [longL]; rw [if_neg h1, if_neg h2, if_neg h3, if_neg h4, if_neg h5, if_pos (.inr h7)]
                have e3 : runL isD (c :: r) = runL isD r + 1 := by rw [runL_cons, if_pos h7]
                rw [hl, e3]
                simp only []
                cases numberL ((c :: r).take (runL isD r + 1)) with
                | none => rfl
                | some x => rfl
              · have h67 : ¬ (c = 95 ∨ isD (c.toNat : Int) = true) := by
                  rintro (h | h)
                  · exact h6 h
                  · exact h7 h
                have hl : longL (c :: r) = (0, 0) := by simp only [longL]; rw [if_neg h1, if_neg h2, if_neg h3, if_neg h4, if_neg h5, if_neg h67]
                have e3 : runL isD (c :: r) = 0 := by rw [runL_cons, if_neg h7]
                have : numberL ((c :: r).take 0) = none := by rw [List.take_zero]; decide
                rw [hl, e3, this]
                rfl
end Go.Proofs.Ytdelccahgchadaa
end
section
namespace Go.Proofs.Ytdelccahgchadaa
open Go.RowKit Go.Proofs.YtdelccahgchadaaW.PrintWords Go.Proofs.YtdelccahgchadaaW.PrintMore
theorem wrap_id {a : Int} (h : -9223372036854775808 ≤ a) (h2 : a ≤ 9223372036854775807) : wrap64 a = a := by unfold wrap64; omega
end Go.Proofs.Ytdelccahgchadaa
end
section
namespace Go.Proofs.Ytdelccahgchadaa
open Go.RowKit Go.Proofs.YtdelccahgchadaaW.PrintWords Go.Proofs.YtdelccahgchadaaW.PrintMore
set_option linter.unusedVariables false
section
variable {α : Type} (kd : α → Int)
def endW : List α → Nat → Option Nat
  | _, 0 => some 0
  | [], _ + 1 => none
  | x :: l, n + 1 => if kd x < 0 then none else (endW l (n + (kd x).toNat)).map (· + 1)
theorem endW_zero (l : List α) : endW kd l 0 = some 0 := by cases l <;> rfl
theorem endW_le {l : List α} : ∀ {n m : Nat}, endW kd l n = some m → m ≤ l.length ∧ (1 ≤ n → 1 ≤ m) := by
  induction l with
  | nil =>
    intro n m h
    cases n with
    | zero => rw [endW_zero] at h; injection h with h; subst h; exact ⟨Nat.le_refl _, fun h => absurd h (by omega)⟩
    | succ n => cases h
  | cons x l ih =>
    intro n m h
    cases n with
    | zero => rw [endW_zero] at h; injection h with h; subst h; exact ⟨Nat.zero_le _, fun h => absurd h (by omega)⟩
    | succ n =>
      simp only [endW] at h
      split at h
      · cases h
      · obtain ⟨j, hj, rfl⟩ := Option.map_eq_some_iff.1 h
        have := (ih hj).1
        rw [List.length_cons]
        exact ⟨by omega, fun _ => by omega⟩
theorem endW_add {l : List α} : ∀ (a b : Nat), endW kd l (a + b) = (endW kd l a).bind fun m => (endW kd (l.drop m) b).map (m + ·) := by
  induction l with
  | nil =>
    intro a b
    cases a with
    | zero => rw [endW_zero, Nat.zero_add]; simp only [Option.bind_some, List.drop_zero]; cases endW kd ([] : List α) b <;> simp
    | succ a => rw [Nat.succ_add]; rfl
  | cons x l ih =>
    intro a b
    cases a with
    | zero => rw [endW_zero, Nat.zero_add]; simp only [Option.bind_some, List.drop_zero]; cases endW kd (x :: l) b <;> simp
    | succ a =>
      rw [show a + 1 + b = (a + b) + 1 by omega]
      simp only [endW]
      by_cases h : kd x < 0
      · rw [if_pos h, if_pos h]; rfl
      · rw [if_neg h, if_neg h, show a + b + (kd x).toNat = (a + (kd x).toNat) + b by omega, ih]
        cases endW kd l (a + (kd x).toNat) with
        | none => rfl
        | some m =>
          simp only [Option.bind_some, Option.map_some, List.drop_succ_cons]
          cases endW kd (l.drop m) b with
          | none => rfl
          | some j => simp; omega
theorem endW_append {l : List α} : ∀ {n m : Nat} (r : List α), endW kd l n = some m → endW kd (l ++ r) n = some m := by
  induction l with
  | nil =>
    intro n m r h
    cases n with
    | zero => rw [endW_zero] at h ⊢; exact h
    | succ n => cases h
  | cons x l ih =>
    intro n m r h
    cases n with
    | zero => rw [endW_zero] at h ⊢; exact h
    | succ n =>
      rw [List.cons_append]
      simp only [endW] at h ⊢
      split at h
      · cases h
      · rename_i hx
        rw [if_neg hx]
        obtain ⟨j, hj, rfl⟩ := Option.map_eq_some_iff.1 h
        rw [ih r hj]; rfl
theorem endW_take {l : List α} : ∀ {n m : Nat}, endW kd l n = some m → endW kd (l.take m) n = some m := by
  induction l with
  | nil =>
    intro n m h
    rw [List.take_nil]; exact h
  | cons x l ih =>
    intro n m h
    cases n with
    | zero => rw [endW_zero] at h ⊢; exact h
    | succ n =>
      simp only [endW] at h
      split at h
      · cases h
      · rename_i hx
        obtain ⟨j, hj, rfl⟩ := Option.map_eq_some_iff.1 h
        rw [List.take_succ_cons]
        simp only [endW]
        rw [if_neg hx, ih hj]; rfl
def dec : List Nat → List Nat
  | [] => []
  | c :: st => if c ≤ 1 then dec st else (c - 1) :: st
def mach : List α → List Nat → Nat → Nat
  | [], _, most => most
  | x :: l, st, most =>
    if (kd x).toNat = 0 then (match dec st with | [] => max most (st.length + 1) | s :: st' => mach l (s :: st') (max most (st.length + 1)))
    else mach l ((kd x).toNat :: st) (max most (st.length + 1))
def fin (st : List Nat) (r : List α) (most : Nat) : Nat := match dec st with | [] => most | s :: st' => mach kd r (s :: st') most
theorem mach_cons0 (x : α) (l : List α) (st : List Nat) (most : Nat) (h : (kd x).toNat = 0) : mach kd (x :: l) st most = fin kd st l (max most (st.length + 1)) := by
  simp only [mach, fin]; rw [if_pos h]
theorem mach_consS (x : α) (l : List α) (st : List Nat) (most : Nat) (h : ¬ (kd x).toNat = 0) : mach kd (x :: l) st most = mach kd l ((kd x).toNat :: st) (max most (st.length + 1)) := by
  simp only [mach]; rw [if_neg h]
theorem mach_max : ∀ (l : List α) (st : List Nat) (most : Nat), mach kd l st most = max most (mach kd l st 0) := by
  intro l
  induction l with
  | nil => intro st most; simp [mach]
  | cons x l ih =>
    intro st most
    simp only [mach]
    by_cases h : (kd x).toNat = 0
    · rw [if_pos h, if_pos h]
      cases dec st with
      | nil => simp only []; omega
      | cons s st' => simp only []; rw [ih, ih (s :: st') (max 0 (st.length + 1))]; omega
    · rw [if_neg h, if_neg h, ih, ih ((kd x).toNat :: st) (max 0 (st.length + 1))]; omega
def need : List Nat → Nat
  | [] => 1
  | c :: st => (c - 1) + need st
theorem need_pos (st : List Nat) : 1 ≤ need st := by
  induction st with
  | nil => exact Nat.le_refl _
  | cons c st ih => simp only [need]; omega
theorem dec_need (st : List Nat) (h : ∀ c ∈ st, 1 ≤ c) : (dec st = [] → need st = 1) ∧ (dec st ≠ [] → need (dec st) = need st - 1) ∧ ∀ c ∈ dec st, 1 ≤ c := by
  induction st with
  | nil => exact ⟨fun _ => rfl, fun h => absurd rfl h, fun c hc => by cases hc⟩
  | cons c st ih =>
    have ih := ih fun d hd => h d (List.mem_cons_of_mem _ hd)
    have hc := h c List.mem_cons_self
    have hp := need_pos st
    simp only [dec, need]
    by_cases h1 : c ≤ 1
    · rw [if_pos h1]
      refine ⟨fun h2 => ?_, fun h2 => ?_, ih.2.2⟩
      · have := ih.1 h2; omega
      · have := ih.2.1 h2; omega
    · rw [if_neg h1]
      refine ⟨fun h2 => (by cases h2), fun _ => ?_, ?_⟩
      · simp only [need]; omega
      · intro d hd
        rcases List.mem_cons.1 hd with e | e
        · omega
        · exact h d (List.mem_cons_of_mem _ e)
theorem dec_nil_append (s st : List Nat) (h : dec s = []) : dec (s ++ st) = dec st := by
  induction s with
  | nil => rfl
  | cons c s ih =>
    simp only [List.cons_append, dec] at h ⊢
    by_cases h1 : c ≤ 1
    · rw [if_pos h1] at h ⊢; exact ih h
    · rw [if_neg h1] at h; cases h
theorem dec_cons_append (s st : List Nat) (h : dec s ≠ []) : dec (s ++ st) = dec s ++ st := by
  induction s with
  | nil => exact absurd rfl h
  | cons c s ih =>
    simp only [List.cons_append, dec] at h ⊢
    by_cases h1 : c ≤ 1
    · rw [if_pos h1] at h ⊢; rw [if_pos h1]; exact ih h
    · rw [if_neg h1]; rw [if_neg h1]; rfl
theorem mach_shift : ∀ (f : List α) (s st : List Nat) (r : List α) (most : Nat), (∀ c ∈ s, 1 ≤ c) → endW kd f (need s) = some f.length →
    mach kd (f ++ r) (s ++ st) most = fin kd st r (max most (st.length + mach kd f s 0)) := by
  intro f
  induction f with
  | nil =>
    intro s st r most hs h
    have := need_pos s
    obtain ⟨n, hn⟩ : ∃ n, need s = n + 1 := ⟨need s - 1, by omega⟩
    rw [hn] at h
    cases h
  | cons x f ih =>
    intro s st r most hs h
    have hp := need_pos s
    obtain ⟨n, hn⟩ : ∃ n, need s = n + 1 := ⟨need s - 1, by omega⟩
    rw [hn] at h
    simp only [endW] at h
    by_cases hx : kd x < 0
    · rw [if_pos hx] at h; cases h
    rw [if_neg hx] at h
    obtain ⟨j, hj, hj2⟩ := Option.map_eq_some_iff.1 h
    rw [List.length_cons] at hj2
    obtain rfl : j = f.length := by omega
    rw [List.cons_append]
    by_cases h0 : (kd x).toNat = 0
    · rw [mach_cons0 kd _ _ _ _ h0, mach_cons0 kd _ _ _ _ h0]
      rw [h0, Nat.add_zero] at hj
      unfold fin
      have hd := dec_need s hs
      by_cases hd0 : dec s = []
      · rw [dec_nil_append s st hd0, hd0]
        have := hd.1 hd0
        obtain rfl : n = 0 := by omega
        rw [endW_zero] at hj
        injection hj with hj
        obtain rfl : f = [] := List.length_eq_zero_iff.1 hj.symm
        rw [List.nil_append, List.length_append]
        simp only []
        have e : max most (s.length + st.length + 1) = max most (st.length + max 0 (s.length + 1)) := by omega
        rw [e]
      · rw [dec_cons_append s st hd0]
        have hn2 := hd.2.1 hd0
        obtain ⟨t, s', hts⟩ : ∃ t s', dec s = t :: s' := by
          cases hds : dec s with
          | nil => exact absurd hds hd0
          | cons t s' => exact ⟨t, s', rfl⟩
        have := ih (dec s) st r (max most ((s ++ st).length + 1)) hd.2.2 (by rw [hn2, hn]; simpa using hj)
        rw [hts] at this ⊢
        simp only [List.cons_append] at this ⊢
        rw [this, List.length_append, mach_max kd f (t :: s') (max 0 (s.length + 1))]
        unfold fin
        have e : max (max most (s.length + st.length + 1)) (st.length + mach kd f (t :: s') 0) = max most (st.length + max (max 0 (s.length + 1)) (mach kd f (t :: s') 0)) := by omega
        rw [e]
    · rw [mach_consS kd _ _ _ _ h0, mach_consS kd _ _ _ _ h0]
      have := ih ((kd x).toNat :: s) st r (max most ((s ++ st).length + 1)) (by
        intro c hc
        rcases List.mem_cons.1 hc with e | e
        · omega
        · exact hs c e) (by
        simp only [need]
        rw [hn, show (kd x).toNat - 1 + (n + 1) = n + (kd x).toNat by omega]
        exact hj)
      rw [List.cons_append] at this
      rw [this, List.length_append, mach_max kd f ((kd x).toNat :: s) (max 0 (s.length + 1))]
      have e : max (max most (s.length + st.length + 1)) (st.length + mach kd f ((kd x).toNat :: s) 0) = max most (st.length + max (max 0 (s.length + 1)) (mach kd f ((kd x).toNat :: s) 0)) := by omega
      rw [e]
def depL (l : List α) : Nat := match endW kd l 1 with | none => 0 | some _ => mach kd l [] 0
theorem depL_append (l r : List α) (h : endW kd l 1 = some l.length) : depL kd (l ++ r) = depL kd l := by
  unfold depL
  rw [endW_append kd r h, h]
  have := mach_shift kd l [] [] r 0 (fun c hc => by cases hc) h
  rw [List.append_nil] at this
  rw [this]
  simp [fin, dec]
end
end Go.Proofs.Ytdelccahgchadaa
end
section
namespace Go.Proofs.Ytdelccahgchadaa
open Go.RowKit Go.Lib Go.Proofs.Ytdelccahgchadaa.P Go.Proofs.YtdelccahgchadaaW.PrintWords Go.Proofs.YtdelccahgchadaaW.PrintMore
set_option linter.unusedVariables false
abbrev Nd := S25
def kdB (f0 : Int) (v : ByteArray) : Int :=
  let b : Int := if v.toList = ([123] : List UInt8) then 1 else 0
  if f0 = 1 ∨ f0 = 2 then 0 else if f0 = 3 then 1 + b else if f0 = 4 then 2 + b else if f0 = 5 ∨ f0 = 7 then 1 else if f0 = 6 ∨ f0 = 8 then 2 else -1
def kdT (x : Nd) : Int := kdB x.f0 x.f1
theorem kdB_bounds (f0 : Int) (v : ByteArray) : -1 ≤ kdB f0 v ∧ kdB f0 v ≤ 3 := by
  unfold kdB
  simp only []
  split <;> (try split) <;> (try split) <;> (try split) <;> (try split) <;> (try split) <;> omega
theorem Kids_eq (f0 : Int) (v a n : ByteArray) (l : List ByteArray) (k : Nat) (hk : 3 ≤ k) : tree_Kids.f k f0 v a n l = some (kdB f0 v) := by
  obtain ⟨k, rfl⟩ : ∃ j, k = j + 3 := ⟨k - 3, by omega⟩
  have h0 : ∀ b : Int, b = 0 ∨ b = 1 → tree_Kids.j0 (k + 3) b f0 v a n l = some (if f0 = 1 ∨ f0 = 2 then 0 else if f0 = 3 then 1 + b else if f0 = 4 then 2 + b else if f0 = 5 ∨ f0 = 7 then 1 else if f0 = 6 ∨ f0 = 8 then 2 else -1) := by
    intro b hb
    have w1 : wrap64 (1 + b) = 1 + b := wrap_id (by omega) (by omega)
    have w2 : wrap64 (2 + b) = 2 + b := wrap_id (by omega) (by omega)
    simp only [tree_Kids.j0, tree_Kids.j1, tree_Kids.j2, w1, w2]
    by_cases h1 : f0 = 1
    · subst h1; simp
    by_cases h2 : f0 = 2
    · subst h2; simp
    by_cases h3 : f0 = 3
    · subst h3; simp
    by_cases h4 : f0 = 4
    · subst h4; simp
    by_cases h5 : f0 = 5
    · subst h5; simp
    by_cases h6 : f0 = 6
    · subst h6; simp
    by_cases h7 : f0 = 7
    · subst h7; simp
    by_cases h8 : f0 = 8
    · subst h8; simp
    simp [h1, h2, h3, h4, h5, h6, h7, h8]
  unfold tree_Kids.f kdB
  by_cases hv : v.toList = ([123] : List UInt8)
  · rw [if_pos hv, if_pos hv]; exact h0 1 (.inr rfl)
  · rw [if_neg hv, if_neg hv]; exact h0 0 (.inl rfl)
theorem rd_drop (l : List Nd) (i : Nat) (x : Nd) (r : List Nd) (h : l.drop i = x :: r) : rd_T25 l (i : Int) = x ∧ i < l.length ∧ l.drop (i + 1) = r := by
  have hi : i < l.length := by
    have := congrArg List.length h
    rw [List.length_drop, List.length_cons] at this
    omega
  have hd := List.drop_eq_getElem_cons hi
  rw [h] at hd
  injection hd with h1 h2
  refine ⟨?_, hi, h2.symm⟩
  unfold rd_T25
  rw [Int.toNat_natCast, List.getD_eq_getElem?_getD, List.getElem?_eq_getElem hi]
  exact h1.symm
def outE (i : Nat) : Option Nat → Int × Bool
  | none => (0, false)
  | some m => (((i + m : Nat) : Int), true)
theorem End_l0 (l0 : List Nd) (hl : l0.length ≤ 1000000) : ∀ (l : List Nd) (i n k : Nat), l0.drop i = l → n ≤ 3 * i + 1 → i ≤ l0.length → l.length + 5 ≤ k →
    tree_End.l0 k l0 (i : Int) (n : Int) = some (outE i (endW kdT l n)) := by
  intro l
  induction l with
  | nil =>
    intro i n k hd hn hi hk
    obtain ⟨k, rfl⟩ : ∃ j, k = j + 1 := ⟨k - 1, by rw [List.length_nil] at hk; omega⟩
    simp only [tree_End.l0]
    cases n with
    | zero => rw [if_neg (by omega), endW_zero]; rfl
    | succ n =>
      have : l0.length ≤ i := by
        have := congrArg List.length hd
        rw [List.length_drop, List.length_nil] at this
        omega
      rw [if_pos (by omega), if_neg (by omega), if_pos (by omega)]
      rfl
  | cons x l ih =>
    intro i n k hd hn hi hk
    rw [List.length_cons] at hk
    obtain ⟨k, rfl⟩ : ∃ j, k = j + 1 := ⟨k - 1, by omega⟩
    obtain ⟨hr, hlt, hd2⟩ := rd_drop l0 i x l hd
    simp only [tree_End.l0]
    cases n with
    | zero => rw [if_neg (by omega), endW_zero]; rfl
    | succ n =>
      rw [if_pos (by omega), if_neg (by omega), if_neg (by omega), if_pos (by omega), if_pos (by omega), hr, Kids_eq _ _ _ _ _ k (by omega)]
      simp only [Option.bind_some, endW]
      have hb := kdB_bounds x.f0 x.f1
      have hk1 : kdT x = kdB x.f0 x.f1 := rfl
      by_cases h : kdB x.f0 x.f1 < 0
      · rw [if_pos h, hk1, if_pos h]; rfl
      · rw [if_neg h, hk1, if_neg h]
        have w1 : wrap64 ((i : Int) + 1) = ((i + 1 : Nat) : Int) := by rw [wrap_id (by omega) (by omega)]; omega
        have w2 : wrap64 (((n + 1 : Nat) : Int) + kdB x.f0 x.f1) = ((n + 1 : Nat) : Int) + kdB x.f0 x.f1 := wrap_id (by omega) (by omega)
        have w3 : wrap64 (((n + 1 : Nat) : Int) + kdB x.f0 x.f1 - 1) = ((n + (kdB x.f0 x.f1).toNat : Nat) : Int) := by rw [wrap_id (by omega) (by omega)]; omega
        rw [w1, w2, w3]
        clear w1 w2 w3
        rw [ih (i + 1) (n + (kdB x.f0 x.f1).toNat) k hd2 (by omega) (by omega) (by omega)]
        cases endW kdT l (n + (kdB x.f0 x.f1).toNat) with
        | none => rfl
        | some m => simp only [outE, Option.map_some]; congr 2; omega
theorem End_eq (l0 : List Nd) (hl : l0.length ≤ 1000000) (i : Nat) (hi : i ≤ l0.length) (k : Nat) (hk : l0.length + 5 ≤ k) : tree_End.f k l0 (i : Int) = some (outE i (endW kdT (l0.drop i) 1)) := by
  unfold tree_End.f
  exact End_l0 l0 hl (l0.drop i) i 1 k rfl (by omega) hi (by rw [List.length_drop]; omega)
def encS : List Nat → List Int
  | [] => []
  | c :: st => encS st ++ [(c : Int)]
theorem encS_len (st : List Nat) : (encS st).length = st.length := by
  induction st with
  | nil => rfl
  | cons c st ih => simp [encS, ih]
theorem rd_last (l : List Int) (c : Int) : rd (l ++ [c]) (l.length : Int) = c := by
  simp [rd]
theorem mx_nat (a b : Nat) : mx (a : Int) (b : Int) = ((max a b : Nat) : Int) := by
  unfold mx
  split <;> omega
theorem dec_len (st : List Nat) : (dec st).length ≤ st.length := by
  induction st with
  | nil => exact Nat.le_refl _
  | cons c st ih => simp only [dec]; split <;> simp only [List.length_cons] <;> omega
theorem dec_le3 (st : List Nat) (h : ∀ c ∈ st, 1 ≤ c ∧ c ≤ 3) : ∀ c ∈ dec st, 1 ≤ c ∧ c ≤ 3 := by
  induction st with
  | nil => intro c hc; cases hc
  | cons c st ih =>
    have hc := h c List.mem_cons_self
    simp only [dec]
    split
    · exact ih fun d hd => h d (List.mem_cons_of_mem _ hd)
    · intro d hd
      rcases List.mem_cons.1 hd with e | e
      · omega
      · exact h d (List.mem_cons_of_mem _ e)
theorem Depth_open (l0 : List Nd) (i most c : Nat) (st : List Nat) (k : Nat) (hc : 1 ≤ c) (hl : st.length ≤ 1000000) :
    tree_Depth.l1 (k + 2) (most : Int) (encS (c :: st)) l0 (l0.length : Int) (i : Int) = tree_Depth.l0 k (most : Int) (encS (c :: st)) l0 (l0.length : Int) (wrap64 ((i : Int) + 1)) := by
  have len2 : (encS (c :: st)).length = st.length + 1 := by rw [encS_len]; rfl
  have hw2 : wrap64 (((st.length + 1 : Nat) : Int) - 1) = (st.length : Int) := by rw [wrap_id (by omega) (by omega)]; omega
  have hr2 : rd (encS (c :: st)) (st.length : Int) = (c : Int) := by
    have := rd_last (encS st) (c : Int)
    rw [encS_len] at this
    exact this
  simp only [tree_Depth.l1, tree_Depth.j2, len2, hw2, hr2]
  clear hw2
  have hb : ((c : Int) == 0) = false := by simp; omega
  rw [if_pos (by omega), if_pos (by omega), if_pos (by omega), hb, if_neg (by decide), if_neg (by omega)]
theorem Depth_done (l0 : List Nd) (i most : Nat) : ∀ (st : List Nat) (k : Nat), (∀ c ∈ st, 1 ≤ c ∧ c ≤ 3) → st.length ≤ 1000000 → 2 * st.length + 4 ≤ k →
    ∃ k', k ≤ k' + 2 * (st.length + 1 - (dec st).length) + 2 ∧ tree_Depth.l1 k (most : Int) (encS (0 :: st)) l0 (l0.length : Int) (i : Int) = (match dec st with | [] => some (most : Int) | s :: st' => tree_Depth.l0 k' (most : Int) (encS (s :: st')) l0 (l0.length : Int) (wrap64 ((i : Int) + 1))) := by
  intro st
  induction st with
  | nil =>
    intro k _ _ hk
    obtain ⟨k, rfl⟩ : ∃ j, k = j + 4 := ⟨k - 4, by omega⟩
    refine ⟨k, by simp only [dec, List.length_nil]; omega, ?_⟩
    simp [tree_Depth.l1, tree_Depth.j2, encS, dec, rd, wrap64]
  | cons c st ih =>
    intro k hs hl hk
    rw [List.length_cons] at hl hk
    obtain ⟨k, rfl⟩ : ∃ j, k = j + 2 := ⟨k - 2, by omega⟩
    have hc := hs c List.mem_cons_self
    have e1 : encS (0 :: c :: st) = encS (c :: st) ++ [(0 : Int)] := rfl
    have len1 : (encS (0 :: c :: st)).length = st.length + 2 := by rw [encS_len]; rfl
    have hw : wrap64 (((st.length + 2 : Nat) : Int) - 1) = ((st.length + 1 : Nat) : Int) := by rw [wrap_id (by omega) (by omega)]; omega
    have hr : rd (encS (0 :: c :: st)) ((st.length + 1 : Nat) : Int) = 0 := by
      have := rd_last (encS (c :: st)) 0
      rw [encS_len, List.length_cons] at this
      exact this
    have ht : (encS (0 :: c :: st)).take (((st.length + 1 : Nat) : Int)).toNat = encS (c :: st) := by
      rw [Int.toNat_natCast, e1, List.take_append_of_le_length (by rw [encS_len, List.length_cons]; omega), List.take_of_length_le (by rw [encS_len, List.length_cons]; omega)]
    have len2 : (encS (c :: st)).length = st.length + 1 := by rw [encS_len]; rfl
    have hw2 : wrap64 (((st.length + 1 : Nat) : Int) - 1) = (st.length : Int) := by rw [wrap_id (by omega) (by omega)]; omega
    have hr2 : rd (encS (c :: st)) (st.length : Int) = (c : Int) := by
      have := rd_last (encS st) (c : Int)
      rw [encS_len] at this
      exact this
    have hw3 : wrap64 ((c : Int) - 1) = ((c - 1 : Nat) : Int) := by rw [wrap_id (by omega) (by omega)]; omega
    have hset : (encS (c :: st)).set ((st.length : Int)).toNat ((c - 1 : Nat) : Int) = encS ((c - 1) :: st) := by
      rw [Int.toNat_natCast]
      simp only [encS]
      rw [List.set_append_right _ _ (by rw [encS_len]; omega), encS_len, Nat.sub_self]
      rfl
    have step : tree_Depth.l1 (k + 2) (most : Int) (encS (0 :: c :: st)) l0 (l0.length : Int) (i : Int) = tree_Depth.l1 k (most : Int) (encS ((c - 1) :: st)) l0 (l0.length : Int) (i : Int) := by
      rw [tree_Depth.l1, len1, hw, hr, tree_Depth.j2, len1, hw, ht]
      simp only [Option.bind_some]
      rw [len2, hw2, hr2, hw3, hset]
      clear hw hw2 hw3
      rw [if_pos (by omega), if_pos (by omega), if_pos (by omega), if_pos (by rfl), if_pos (by omega), if_pos (by omega), if_pos (by omega), if_pos (by omega), if_pos (by omega)]
    rw [step]
    clear hw hw2 hw3
    simp only [dec]
    by_cases h1 : c ≤ 1
    · rw [if_pos h1]
      have e : c - 1 = 0 := by omega
      rw [e]
      obtain ⟨k', hk', he⟩ := ih k (fun d hd => hs d (List.mem_cons_of_mem _ hd)) (by omega) (by omega)
      have hdl := dec_len st
      exact ⟨k', by rw [List.length_cons]; omega, he⟩
    · rw [if_neg h1]
      obtain ⟨k, rfl⟩ : ∃ j, k = j + 2 := ⟨k - 2, by omega⟩
      exact ⟨k, by simp only [List.length_cons]; omega, Depth_open l0 i most (c - 1) st k (by omega) (by omega)⟩
theorem Depth_l0 (l0 : List Nd) (hl : l0.length ≤ 1000000) : ∀ (l : List Nd) (i most k : Nat) (st : List Nat), l0.drop i = l → i ≤ l0.length → (∀ c ∈ st, 1 ≤ c ∧ c ≤ 3) → st.length ≤ i → (endW kdT l (need st)).isSome = true → 5 * l.length + 2 * st.length + 8 ≤ k →
    tree_Depth.l0 k (most : Int) (encS st) l0 (l0.length : Int) (i : Int) = some ((mach kdT l st most : Nat) : Int) := by
  intro l
  induction l with
  | nil =>
    intro i most k st hd hi hs hsl he hk
    have := need_pos st
    obtain ⟨n, hn⟩ : ∃ n, need st = n + 1 := ⟨need st - 1, by omega⟩
    rw [hn] at he
    cases he
  | cons x l ih =>
    intro i most k st hd hi hs hsl he hk
    rw [List.length_cons] at hk
    obtain ⟨k, rfl⟩ : ∃ j, k = j + 1 := ⟨k - 1, by omega⟩
    obtain ⟨hr, hlt, hd2⟩ := rd_drop l0 i x l hd
    have hp := need_pos st
    obtain ⟨n, hn⟩ : ∃ n, need st = n + 1 := ⟨need st - 1, by omega⟩
    have hb := kdB_bounds x.f0 x.f1
    have hk1 : kdT x = kdB x.f0 x.f1 := rfl
    rw [hn] at he
    simp only [endW] at he
    by_cases hx : kdT x < 0
    · rw [if_pos hx] at he; cases he
    rw [if_neg hx] at he
    have he2 : (endW kdT l (n + (kdT x).toNat)).isSome = true := by
      cases h : endW kdT l (n + (kdT x).toNat) with
      | none => rw [h] at he; cases he
      | some m => rfl
    obtain ⟨c, hc⟩ : ∃ c, (kdT x).toNat = c := ⟨_, rfl⟩
    have hkc : kdB x.f0 x.f1 = (c : Int) := by omega
    have henc : encS st ++ [(c : Int)] = encS (c :: st) := rfl
    have hlen : (encS (c :: st)).length = st.length + 1 := by rw [encS_len]; rfl
    have hlim : (encS st).length < 17592186044416 := Nat.lt_of_le_of_lt (by rw [encS_len]; omega : (encS st).length ≤ 1000000) (by decide)
    simp only [tree_Depth.l0]
    rw [if_pos (by omega), if_pos (by omega), if_pos (by omega), hr, Kids_eq _ _ _ _ _ k (by omega), hkc]
    simp only [Option.bind_some]
    rw [if_pos hlim, henc, hlen, mx_nat]
    clear hlim
    by_cases h0 : c = 0
    · subst h0
      obtain ⟨k', hk', e⟩ := Depth_done l0 i (max most (st.length + 1)) st k hs (by omega) (by omega)
      have w1 : wrap64 ((i : Int) + 1) = ((i + 1 : Nat) : Int) := by rw [wrap_id (by omega) (by omega)]; omega
      rw [e, w1, mach_cons0 kdT x l st most hc]
      clear w1 e
      unfold fin
      have hdl := dec_len st
      have hdn := dec_need st (fun d hd => (hs d hd).1)
      cases hds : dec st with
      | nil => rfl
      | cons s st' =>
        simp only []
        have h3 := dec_le3 st hs
        rw [hds] at h3 hdl hdn hk'
        have hne := hdn.2.1 (by simp)
        simp only [List.length_cons] at hdl hk'
        exact ih (i + 1) (max most (st.length + 1)) k' (s :: st') hd2 (by omega) h3 (by rw [List.length_cons]; omega) (by rw [hne, hn]; rw [hc] at he2; simpa using he2) (by rw [List.length_cons]; omega)
    · obtain ⟨k, rfl⟩ : ∃ j, k = j + 2 := ⟨k - 2, by omega⟩
      have hdo := Depth_open l0 i (max most (st.length + 1)) c st k (by omega) (by omega)
      have hms := mach_consS kdT x l st most (by omega)
      have w1 : wrap64 ((i : Int) + 1) = ((i + 1 : Nat) : Int) := by rw [wrap_id (by omega) (by omega)]; omega
      rw [hdo, w1, hms, hc]
      clear w1 hdo hms
      exact ih (i + 1) _ k (c :: st) hd2 (by omega) (by
        intro d hd
        rcases List.mem_cons.1 hd with e | e
        · omega
        · exact hs d e) (by rw [List.length_cons]; omega) (by
        simp only [need]
        rw [hn, show c - 1 + (n + 1) = n + c by omega, ← hc]
        exact he2) (by rw [List.length_cons]; omega)
theorem Depth_eq (l0 : List Nd) (hl : l0.length ≤ 1000000) (k : Nat) (hk : 5 * l0.length + 10 ≤ k) : tree_Depth.f k l0 = some ((depL kdT l0 : Nat) : Int) := by
  unfold tree_Depth.f depL
  have e0 : (0 : Int) = ((0 : Nat) : Int) := rfl
  have := End_eq l0 hl 0 (by omega) k (by omega)
  rw [List.drop_zero, ← e0] at this
  rw [this]
  simp only [Option.bind_some]
  cases h : endW kdT l0 1 with
  | none => simp [outE]
  | some m =>
    simp only [outE]
    rw [if_pos trivial]
    exact Depth_l0 l0 hl l0 0 0 k [] rfl (by omega) (fun c hc => by cases hc) (by simp) (by simp only [need]; rw [h]; rfl) (by rw [List.length_nil]; omega)
end Go.Proofs.Ytdelccahgchadaa
end
section
namespace Go.Proofs.Ytdelccahgchadaa
open Go.RowKit Go.Lib Go.Proofs.Ytdelccahgchadaa.P Go.Proofs.YtdelccahgchadaaW.PrintWords Go.Proofs.YtdelccahgchadaaW.PrintMore
set_option linter.unusedVariables false
abbrev mkB (l : Bs) : ByteArray := ⟨l.toArray⟩
theorem mkB_L (s : ByteArray) : mkB (L s) = s := L_ext rfl
theorem trimP (s : ByteArray) (c : UInt8) : strings_TrimPrefix.f s ⟨#[c]⟩ = some (mkB (trimC c (L s))) := by
  unfold strings_TrimPrefix.f
  have : (⟨#[c]⟩ : ByteArray).data.toList = [c] := rfl
  rw [this, trimC_eq]
theorem mkB_size (l : Bs) : (mkB l).size = l.length := by simp [ByteArray.size]
theorem bt_head (c : UInt8) (l : Bs) : bt (mkB (c :: l)) 0 = (c.toNat : Int) := by
  have := L_bt (mkB (c :: l)) 0 (by simp)
  exact this
theorem allFig_L (s : ByteArray) : allFig s = figs (L s) := rfl
theorem byte_iff (c d : UInt8) : ((c.toNat : Int) = (d.toNat : Int)) ↔ c = d := by
  constructor
  · intro h; exact UInt8.toNat_inj.1 (by omega)
  · rintro rfl; rfl
theorem May_eq (s : ByteArray) : num_May.f s = some (mayB (L s)) := by
  unfold num_May.f mayB
  rw [trimP]
  simp only [Option.bind_some, mkB_size]
  obtain ⟨f, hf⟩ : ∃ f, trimC 45 (L s) = f := ⟨_, rfl⟩
  rw [hf]
  cases f with
  | nil => simp
  | cons c f =>
    rw [if_neg (by rw [List.length_cons]; omega)]
    by_cases h : (c :: f).length ≤ 100
    · rw [if_neg (by omega), if_pos (by rw [List.length_cons]; omega), bt_head]
      unfold ContainsFunc_May.f
      rw [allFig_L, L_mk]
      have e1 : decide (1 ≤ (c :: f).length) = true := by simp
      have e2 : decide ((c :: f).length ≤ 100) = true := by simpa using h
      rw [e1, e2]
      by_cases hc : c = 48
      · subst hc
        rw [if_pos (by decide), toList_L]
        by_cases h0 : L s = [48]
        · rw [if_pos h0, h0]; simp
        · rw [if_neg h0]
          have : (L s == [48]) = false := by simpa using h0
          rw [this]; simp
      · have hne : ¬ ((c.toNat : Int) = 48) := fun h' => hc ((byte_iff c 48).1 h')
        rw [if_neg hne]
        have : ((c :: f).head? == some 48) = false := by simpa using hc
        rw [this]; simp
    · rw [if_pos (by omega)]
      have e2 : decide ((c :: f).length ≤ 100) = false := by simpa using h
      rw [e2]; simp
def outN (o : Option Bs) : ByteArray × Bool := match o with | some n => (mkB n, true) | none => (⟨#[]⟩, false)
theorem number_eq (s : ByteArray) (hs : s.size ≤ 140737488351232) (k : Nat) (hk : 1 ≤ k) : lex_Number.f k s = some (outN (numberL (L s))) := by
  obtain ⟨k, rfl⟩ : ∃ j, k = j + 1 := ⟨k - 1, by omega⟩
  unfold lex_Number.f numberL
  rw [trimP]
  simp only [Option.bind_some, mkB_size, toList_L, L_mk]
  obtain ⟨f, hf⟩ : ∃ f, trimC 95 (L s) = f := ⟨_, rfl⟩
  have hl := trimC_len 95 (L s)
  rw [← L_size] at hl
  rw [hf] at hl ⊢
  have hj : ∀ n : Bs, lex_Number.j0 (k + 1) (mkB f) (mkB n) = some (outN (if figs f && mayB n then some n else none)) := by
    intro n
    simp only [lex_Number.j0, run_figure.f, runO, May_eq, L_mk, mkB_size]
    rw [if_pos (by omega), runN_eq, L_mk]
    simp only [Option.bind_some]
    by_cases h : figs f = true
    · rw [h, if_pos (by rw [(figs_run f).1 h])]
      cases mayB n with
      | true => rfl
      | false => rfl
    · rw [if_neg (fun h' => h ((figs_run f).2 (by omega)))]
      have : figs f = false := by simpa using h
      rw [this]; rfl
  by_cases h : f = L s
  · rw [if_pos h, if_pos h, hj]
  · rw [if_neg h, if_neg h, if_pos (by omega)]
    have e : (⟨#[45]⟩ : ByteArray) ++ mkB f = mkB (45 :: f) := L_ext (by rw [L_append]; rfl)
    rw [e, hj]
theorem indexB_iff (l : Bs) (c : UInt8) : ∃ t, strings_IndexByte.f (mkB l) (c.toNat : Int) = some t ∧ (t ≥ 0 ↔ l.contains c = true) := by
  refine ⟨_, rfl, ?_⟩
  have e : ((c.toNat : Int).toNat.toUInt8) = c := Lib.byte_back' c
  have e2 : (mkB l).data.toList = l := rfl
  rw [e, e2, Lib.contains_iff_indexByte]
  simp
theorem first_eq (s : ByteArray) (h0 : 0 < s.size) (hs : s.size ≤ 256) (k : Nat) (hk : 1 ≤ k) : lex_first.f k s = some (((firstL (L s)).1 : Int), ((firstL (L s)).2 : Int)) := by
  obtain ⟨l, hl⟩ : ∃ l, L s = l := ⟨_, rfl⟩
  obtain rfl : s = mkB l := by rw [← hl, mkB_L]
  clear hl
  rw [mkB_size] at h0 hs
  cases l with
  | nil => simp at h0
  | cons c l =>
    unfold lex_first.f firstL
    simp only [L_mk]
    rw [if_pos (by rw [mkB_size]; omega), bt_head]
    have hS : lex_small.f (c.toNat : Int) = some (isLow (c.toNat : Int)) := by
      unfold lex_small.f isLow
      by_cases h : (c.toNat : Int) ≥ 97
      · rw [if_pos h]; congr 1; rw [Bool.eq_iff_iff, decide_eq_true_iff, decide_eq_true_iff]; omega
      · rw [if_neg h]; congr 1; rw [Bool.eq_iff_iff, decide_eq_true_iff]; simp; omega
    have hG : lex_great.f (c.toNat : Int) = some (isUp (c.toNat : Int)) := by
      unfold lex_great.f isUp
      by_cases h : (c.toNat : Int) ≥ 65
      · rw [if_pos h]; congr 1; rw [Bool.eq_iff_iff, decide_eq_true_iff, decide_eq_true_iff]; omega
      · rw [if_neg h]; congr 1; rw [Bool.eq_iff_iff, decide_eq_true_iff]; simp; omega
    rw [hS, hG]
    simp only [Option.bind_some]
    by_cases h1 : isLow (c.toNat : Int) = true
    · rw [if_pos h1, if_pos h1]
      simp only [run_word.f, runO]
      rw [if_pos (by rw [mkB_size]; omega)]
      rfl
    rw [if_neg h1, if_neg h1]
    by_cases h2 : isUp (c.toNat : Int) = true
    · rw [if_pos h2, if_pos h2]
      simp only [run_verb.f, runO]
      rw [if_pos (by rw [mkB_size]; omega)]
      rfl
    rw [if_neg h2, if_neg h2]
    obtain ⟨t3, e3, i3⟩ := indexB_iff signsL c
    obtain ⟨t4, e4, i4⟩ := indexB_iff advsL c
    obtain ⟨t5, e5, i5⟩ := indexB_iff marksL c
    have e3' : strings_IndexByte.f (⟨#[43, 45, 42, 37, 33, 38, 124, 60, 62, 61, 126, 44, 35, 94, 36, 63, 64]⟩ : ByteArray) (c.toNat : Int) = some t3 := e3
    have e4' : strings_IndexByte.f (⟨#[39, 47, 92, 46, 96]⟩ : ByteArray) (c.toNat : Int) = some t4 := e4
    have e5' : strings_IndexByte.f (⟨#[40, 41, 91, 93, 123, 125, 58]⟩ : ByteArray) (c.toNat : Int) = some t5 := e5
    rw [e3', e4', e5', trimP]
    simp only [Option.bind_some, L_mk]
    by_cases h3 : t3 ≥ 0
    · rw [if_pos h3, if_pos (i3.1 h3)]; rfl
    rw [if_neg h3, if_neg (fun h => h3 (i3.2 h))]
    by_cases h4 : t4 ≥ 0
    · rw [if_pos h4, if_pos (i4.1 h4)]; rfl
    rw [if_neg h4, if_neg (fun h => h4 (i4.2 h))]
    by_cases h5 : t5 ≥ 0
    · rw [if_pos h5, if_pos (i5.1 h5)]; rfl
    rw [if_neg h5, if_neg (fun h => h5 (i5.2 h))]
    have hl := trimC_len 95 (c :: l)
    obtain ⟨f, hf⟩ : ∃ f, trimC 95 (c :: l) = f := ⟨_, rfl⟩
    rw [hf] at hl ⊢
    have hr := runL_le isD f
    have er : run_figure.f (mkB f) = some (runL isD f : Int) := by
      simp only [run_figure.f, runO]
      rw [if_pos (by rw [mkB_size]; omega)]
      rfl
    rw [er]
    simp only [Option.bind_some, mkB_size]
    obtain ⟨n, hn⟩ : ∃ n, (c :: l).length - f.length + runL isD f = n := ⟨_, rfl⟩
    have hw : wrap64 (wrap64 (((c :: l).length : Int) - (f.length : Int)) + (runL isD f : Int)) = (n : Int) := by
      rw [wrap_id (a := ((c :: l).length : Int) - (f.length : Int)) (by omega) (by omega), wrap_id (by omega) (by omega)]; omega
    rw [hw, if_pos (by omega), if_pos (by omega)]
    have hx : (mkB (c :: l)).extract 0 (n : Int).toNat = mkB ((c :: l).take n) := L_ext (by rw [L_extract]; simp [L_mk])
    rw [hx, number_eq _ (by rw [mkB_size, List.length_take]; omega) k hk, L_mk, hn]
    simp only [Option.bind_some]
    cases hN : numberL ((c :: l).take n) with
    | none => rfl
    | some m => rfl
def encT (t : Tk) : S71 := ⟨(t.kind : Int), mkB t.text, (t.pos : Int)⟩
def outL (o : Nat ⊕ List Tk) : List S71 × Int × Int := match o with | .inl e => ([], (e : Int), 2) | .inr ts => (ts.map encT, 0, 0)
theorem lex_l0 (s : ByteArray) (hs : s.size ≤ 256) : ∀ (m k p : Nat) (acc : List S71), p ≤ s.size → s.size - p < m → s.size - p + 1 < k → acc.length ≤ p →
    lex_Lex.l0 k s acc (p : Int) = some (match lexF m p ((L s).drop p) with | .inl e => ([], (e : Int), 2) | .inr ts => (acc ++ ts.map encT, 0, 0)) := by
  intro m
  induction m with
  | zero => intro k p acc _ h; omega
  | succ m ih =>
    intro k p acc hp hm hk ha
    obtain ⟨k, rfl⟩ : ∃ j, k = j + 1 := ⟨k - 1, by omega⟩
    have hlen : ((L s).drop p).length = s.size - p := by rw [List.length_drop, ← L_size]
    simp only [lex_Lex.l0]
    cases hl : (L s).drop p with
    | nil =>
      rw [hl, List.length_nil] at hlen
      rw [if_neg (by omega)]
      simp [lexF]
    | cons c l =>
      rw [hl, List.length_cons] at hlen
      have hpl : p < (L s).length := by rw [← L_size]; omega
      have hg : (L s)[p] = c := by
        have := List.drop_eq_getElem_cons hpl
        rw [hl] at this
        injection this with h1 h2
        exact h1.symm
      rw [if_pos (by omega), if_pos (by omega), if_pos (by decide), L_bt s p hpl, hg]
      have e32 : bt (⟨#[32]⟩ : ByteArray) 0 = ((32 : UInt8).toNat : Int) := by decide
      rw [e32]
      simp only [lexF]
      by_cases hc : c = 32
      · rw [if_pos (by rw [hc]), if_pos hc, wrap_id (by omega) (by omega)]
        have := ih k (p + 1) acc (by omega) (by omega) (by omega) (by omega)
        have hd : (L s).drop (p + 1) = l := by rw [← List.drop_drop, hl]; rfl
        rw [hd] at this
        exact_mod_cast this
      · rw [if_neg (fun h => hc ((byte_iff c 32).1 h)), if_neg hc, if_pos (by omega)]
        have hx : s.extract (p : Int).toNat s.size = mkB (c :: l) := L_ext (by rw [L_end, L_mk, Int.toNat_natCast, hl])
        rw [hx, first_eq _ (by rw [mkB_size, List.length_cons]; omega) (by rw [mkB_size, List.length_cons]; omega) k (by omega), L_mk]
        simp only [Option.bind_some]
        by_cases h0 : (firstL (c :: l)).1 = 0
        · rw [if_pos (by omega), if_pos h0]
        · have hb := firstL_bounds c l h0
          rw [if_neg (by omega), if_neg h0]
          obtain ⟨kk, hkk⟩ : ∃ kk, (firstL (c :: l)).1 = kk := ⟨_, rfl⟩
          obtain ⟨n, hn⟩ : ∃ n, (firstL (c :: l)).2 = n := ⟨_, rfl⟩
          rw [hkk, hn] at hb ⊢
          rw [List.length_cons] at hb
          have hw : wrap64 ((p : Int) + (n : Int)) = ((p + n : Nat) : Int) := by rw [wrap_id (by omega) (by omega)]; omega
          have hacc : acc.length < 4398046511104 := Nat.lt_of_le_of_lt ha (Nat.lt_of_le_of_lt hp (Nat.lt_of_le_of_lt hs (by decide)))
          rw [hw]
          clear hw
          rw [if_pos (by omega), if_pos (by omega), if_pos hacc]
          have hy : s.extract (p : Int).toNat ((p + n : Nat) : Int).toNat = mkB ((c :: l).take n) := L_ext (by
            rw [L_extract, L_mk, Int.toNat_natCast, Int.toNat_natCast, hl, Nat.add_sub_cancel_left])
          rw [hy]
          have hd : (L s).drop (p + n) = (c :: l).drop n := by rw [← List.drop_drop, hl]
          have := ih k (p + n) (acc ++ [(⟨(kk : Int), mkB ((c :: l).take n), (p : Int)⟩ : S71)]) (by omega) (by omega) (by omega) (by rw [List.length_append, List.length_singleton]; omega)
          rw [hd] at this
          rw [this]
          cases lexF m (p + n) ((c :: l).drop n) with
          | inl e => rfl
          | inr ts => simp [encT]
theorem lex_eq (s : ByteArray) (hs : s.size ≤ 256) (k : Nat) (hk : 258 < k) : lex_Lex.f k s = some (outL (lexL (L s))) := by
  unfold lex_Lex.f lexL
  rw [if_neg (by omega)]
  have := lex_l0 s hs (s.size + 1) k 0 [] (by omega) (by omega) (by omega) (by simp)
  rw [List.drop_zero] at this
  have e : ((0 : Nat) : Int) = 0 := rfl
  rw [e] at this
  rw [this, ← L_size]
  cases lexF (s.size + 1) 0 (L s) with
  | inl e => rfl
  | inr ts => rfl
theorem lex_big (s : ByteArray) (hs : 256 < s.size) (k : Nat) : lex_Lex.f k s = some ([], 0, 8) := by
  unfold lex_Lex.f
  rw [if_pos (by omega)]
end Go.Proofs.Ytdelccahgchadaa
end
section
namespace Go.Proofs.Ytdelccahgchadaa
open Go.RowKit Go.Lib Go.Proofs.Ytdelccahgchadaa.P Go.Proofs.YtdelccahgchadaaW.PrintWords Go.Proofs.YtdelccahgchadaaW.PrintMore
set_option linter.unusedVariables false
def isB (s : ByteArray) (kind : Int) : Bool :=
  if s.size ≤ 256 then (match lexL (L s) with | .inr [t] => t.text == L s && decide ((t.kind : Int) = kind) | _ => false) else false
theorem is_eq (s : ByteArray) (kind : Int) (k : Nat) (hk : 258 < k) : tree_is.f k s kind = some (isB s kind) := by
  unfold tree_is.f isB
  by_cases hs : s.size ≤ 256
  · rw [if_pos hs, lex_eq s hs k hk]
    cases lexL (L s) with
    | inl e => simp [outL]
    | inr ts =>
      cases ts with
      | nil => simp [outL]
      | cons t ts =>
        cases ts with
        | nil =>
          simp only [outL, Option.bind_some, List.map_cons, List.map_nil, List.length_singleton]
          rw [if_pos trivial, if_pos (by decide), if_pos (by decide)]
          have q1 : (rd_T71 [encT t] 0).f1.toList = t.text := by
            have : (rd_T71 [encT t] 0).f1 = mkB t.text := rfl
            rw [this, toList_L]
          have q2 : (rd_T71 [encT t] 0).f0 = (t.kind : Int) := rfl
          rw [q1, q2, toList_L]
          by_cases h : t.text = L s
          · rw [if_pos h, h]; simp
            rfl
          · rw [if_neg h]
            have : (t.text == L s) = false := by simpa using h
            rw [this]; rfl
        | cons u ts =>
          simp only [outL, Option.bind_some, List.map_cons, List.length_cons]
          rw [if_pos trivial, if_neg (by omega)]
  · rw [if_neg hs, lex_big s (by omega)]
    simp
def verbB (s : ByteArray) : Bool := s.toList == ([123] : List UInt8) || isB s 4 || isB s 3
theorem verb_eq (s : ByteArray) (k : Nat) (hk : 258 < k) : tree_verb.f k s = some (verbB s) := by
  unfold tree_verb.f verbB
  by_cases h : s.toList = ([123] : List UInt8)
  · rw [if_pos h, h]; rfl
  · rw [if_neg h, is_eq s 4 k hk, is_eq s 3 k hk]
    have : (s.toList == ([123] : List UInt8)) = false := by simpa using h
    rw [this]
    cases isB s 4 <;> simp
def advB (s of : ByteArray) : Bool := s.toList == ([] : List UInt8) || (match L s with | [c] => (L of).contains c | _ => false)
theorem adv_eq (s of : ByteArray) : tree_adv.f s of = some (advB s of) := by
  unfold tree_adv.f advB
  by_cases h : s.toList = ([] : List UInt8)
  · rw [if_pos h, h]; rfl
  · rw [if_neg h]
    have h2 : (s.toList == ([] : List UInt8)) = false := by simpa using h
    rw [h2, Bool.false_or]
    have hz : s.size = (L s).length := L_size s
    unfold strings_Contains.f
    by_cases h1 : (s.size : Int) = 1
    · rw [if_pos h1]
      obtain ⟨c, hc⟩ : ∃ c, L s = [c] := by
        cases hl : L s with
        | nil => rw [hl, List.length_nil] at hz; omega
        | cons c l =>
          cases l with
          | nil => exact ⟨c, rfl⟩
          | cons d l => rw [hl, List.length_cons, List.length_cons] at hz; omega
      have hc2 : s.data.toList = [c] := hc
      rw [hc2, hc]
      simp
    · rw [if_neg h1]
      cases hl : L s with
      | nil => rfl
      | cons c l =>
        cases l with
        | nil => rw [hl, List.length_singleton] at hz; omega
        | cons d l => rfl
end Go.Proofs.Ytdelccahgchadaa
end
section
namespace Go.Proofs.Ytdelccahgchadaa
open Go.RowKit Go.Lib Go.Proofs.Ytdelccahgchadaa.P Go.Proofs.YtdelccahgchadaaW.PrintWords Go.Proofs.YtdelccahgchadaaW.PrintMore
set_option linter.unusedVariables false
theorem rdS_get (l : List ByteArray) (i : Nat) (h : i < l.length) : rdOf ByteArray.empty l (i : Int) = l[i] := by
  unfold rdOf
  rw [Int.toNat_natCast, List.getD_eq_getElem?_getD, List.getElem?_eq_getElem h]
  rfl
theorem IndexNum (l : List ByteArray) (hl : l.length ≤ 1000000) : ∀ (m i k : Nat), l.length - i < m → m ≤ k → i ≤ l.length → ∃ r, slices_IndexFunc_string_string.l0 k l (l.length : Int) (i : Int) = some r ∧ decide (r ≥ 0) = (l.drop i).any fun s => !mayB (L s) := by
  intro m
  induction m with
  | zero => intro i k h; omega
  | succ m ih =>
    intro i k h hk hi
    obtain ⟨k, rfl⟩ : ∃ j, k = j + 1 := ⟨k - 1, by omega⟩
    simp only [slices_IndexFunc_string_string.l0]
    by_cases hlt : (i : Int) < (l.length : Int)
    · have hil : i < l.length := by omega
      rw [if_pos hlt, if_pos (by omega), if_pos hlt, rdS_get l i hil, List.drop_eq_getElem_cons hil, List.any_cons]
      unfold tree_may_1.f
      rw [May_eq]
      simp only [Option.bind_some]
      cases hm : mayB (L l[i]) with
      | false => exact ⟨(i : Int), by simp, by simp⟩
      | true =>
        obtain ⟨r, h1, h2⟩ := ih (i + 1) k (by omega) (by omega) (by omega)
        refine ⟨r, ?_, by rw [h2]; simp⟩
        have hw : wrap64 ((i : Int) + 1) = ((i + 1 : Nat) : Int) := by rw [wrap_id (by omega) (by omega)]; omega
        rw [hw, h1]; rfl
    · rw [if_neg hlt, List.drop_eq_nil_of_le (by omega)]
      exact ⟨-1, rfl, rfl⟩
theorem ContainsNum (l : List ByteArray) (hl : l.length ≤ 1000000) (k : Nat) (hk : l.length + 1 ≤ k) : slices_ContainsFunc_string_string.f k l = some (l.any fun s => !mayB (L s)) := by
  unfold slices_ContainsFunc_string_string.f slices_IndexFunc_string_string.f
  obtain ⟨r, h1, h2⟩ := IndexNum l hl (l.length + 1) 0 k (by omega) hk (by omega)
  have e0 : (0 : Int) = ((0 : Nat) : Int) := rfl
  rw [e0, h1]
  rw [List.drop_zero] at h2
  simp only [Option.bind_some]
  rw [← h2]
  rfl
def noB (s : ByteArray) : Bool := s.toList == ([] : List UInt8)
def mayN (x : Nd) : Bool :=
  if x.f0 = 1 then noB x.f1 && noB x.f2 && noB x.f3 && !(x.f4.length == 0) && decide (x.f4.length ≤ 100) && !(x.f4.any fun s => !mayB (L s))
  else if x.f0 = 2 ∨ x.f0 = 5 ∨ x.f0 = 6 then noB x.f1 && noB x.f2 && x.f4.length == 0 && isB x.f3 2
  else if x.f0 = 7 then noB x.f1 && noB x.f2 && x.f4.length == 0 && isB x.f3 3
  else if x.f0 = 8 then noB x.f1 && noB x.f2 && x.f4.length == 0 && noB x.f3
  else if x.f0 = 3 then x.f4.length == 0 && noB x.f3 && verbB x.f1 && advB x.f2 ⟨#[39, 47, 92, 96]⟩
  else if x.f0 = 4 then x.f4.length == 0 && noB x.f3 && verbB x.f1 && advB x.f2 ⟨#[39, 46]⟩
  else false
theorem if_andT (a x : Bool) : (if a = true then some x else some false) = some (a && x) := by cases a <;> rfl
theorem noB_if (s : ByteArray) (x : Bool) : (if s.toList = ([] : List UInt8) then some x else some false) = some (noB s && x) := by
  unfold noB
  by_cases h : s.toList = ([] : List UInt8)
  · rw [if_pos h, h]; rfl
  · rw [if_neg h]
    have : (s.toList == ([] : List UInt8)) = false := by simpa using h
    rw [this]; rfl
theorem may_eq (x : Nd) (k : Nat) (hk : 400 < k) : tree_may.f k x.f0 x.f1 x.f2 x.f3 x.f4 = some (mayN x) := by
  obtain ⟨k, rfl⟩ : ∃ j, k = j + 2 := ⟨k - 2, by omega⟩
  obtain ⟨k0, v, a, n, l⟩ := x
  simp only []
  have key : ∀ pl : Bool, pl = (noB v && noB a) → tree_may.j0 (k + 2) ((l.length : Int) == 0) pl k0 v a n l = some (mayN ⟨k0, v, a, n, l⟩) := by
    intro pl hpl
    have hbare : ((l.length : Int) == 0) = (l.length == 0) := by
      rw [Bool.eq_iff_iff]; simp
    rw [hbare]
    simp only [tree_may.j0, tree_may.j1, is_eq _ _ k (by omega), verb_eq _ k (by omega), adv_eq, Option.bind_some, if_andT, noB_if, mayN, ← hpl]
    have hcn : (if (l.length : Int) ≤ 100 then (slices_ContainsFunc_string_string.f (k + 1) l).bind fun t => some (!t) else some false) = some (decide (l.length ≤ 100) && !(l.any fun s => !mayB (L s))) := by
      by_cases h : l.length ≤ 100
      · rw [if_pos (by omega), ContainsNum l (by omega) (k + 1) (by omega), decide_eq_true h]
        rfl
      · rw [if_neg (by omega), decide_eq_false h]
        rfl
    rw [hcn]
    by_cases h1 : k0 = 1
    · subst h1
      cases pl <;> cases (l.length == 0) <;> by_cases hn : n.toList = [] <;> simp [noB, hn]
    rw [if_neg h1, if_neg h1]
    by_cases h2 : k0 = 2
    · subst h2; simp [Bool.and_assoc]
    by_cases h5 : k0 = 5
    · subst h5; simp [Bool.and_assoc]
    by_cases h6 : k0 = 6
    · subst h6; simp [Bool.and_assoc]
    have h256 : ¬ (k0 = 2 ∨ k0 = 5 ∨ k0 = 6) := by omega
    have hb6 : ¬ (k0 == 6) = true := by simpa using h6
    rw [if_neg h2, if_neg h5, if_neg hb6, if_neg h256]
    by_cases h7 : k0 = 7
    · subst h7; simp [Bool.and_assoc]
    rw [if_neg h7, if_neg h7]
    by_cases h8 : k0 = 8
    · subst h8; simp [Bool.and_assoc, noB]
    rw [if_neg h8, if_neg h8]
    by_cases h3 : k0 = 3
    · subst h3; simp [Bool.and_assoc]
    rw [if_neg h3, if_neg h3]
    by_cases h4 : k0 = 4
    · subst h4; simp [Bool.and_assoc]
    rw [if_neg h4, if_neg h4]
  unfold tree_may.f
  by_cases hv : v.toList = ([] : List UInt8)
  · rw [if_pos hv]
    exact key _ (by unfold noB; rw [hv]; rfl)
  · rw [if_neg hv]
    exact key _ (by
      unfold noB
      have : (v.toList == ([] : List UInt8)) = false := by simpa using hv
      rw [this]; rfl)
end Go.Proofs.Ytdelccahgchadaa
end
section
namespace Go.Proofs.Ytdelccahgchadaa
open Go.RowKit Go.Lib Go.Proofs.Ytdelccahgchadaa.P Go.Proofs.YtdelccahgchadaaW.PrintWords Go.Proofs.YtdelccahgchadaaW.PrintMore
set_option linter.unusedVariables false
def headB (x : Nd) : Bool := decide (x.f0 = 5 ∨ x.f0 = 6 ∨ x.f0 = 7)
theorem head_eq (a : Int) (b c d : ByteArray) (l : List ByteArray) : tree_head.f a b c d l = some (decide (a = 5 ∨ a = 6 ∨ a = 7)) := by
  unfold tree_head.f
  by_cases h5 : a = 5
  · subst h5; simp
  by_cases h6 : a = 6
  · subst h6; simp
  by_cases h7 : a = 7
  · subst h7; simp
  simp [h5, h6, h7]
def allN : Nat → List Nd → Bool
  | _, [] => true
  | i, x :: l => mayN x && !(headB x && decide (0 < i)) && allN (i + 1) l
theorem May_l0 (l0 : List Nd) (hl : l0.length ≤ 1000000) : ∀ (l : List Nd) (i k : Nat), l0.drop i = l → i ≤ l0.length → l.length + 410 ≤ k → tree_May.l0 k l0 (l0.length : Int) (i : Int) = some (allN i l) := by
  intro l
  induction l with
  | nil =>
    intro i k hd hi hk
    obtain ⟨k, rfl⟩ : ∃ j, k = j + 1 := ⟨k - 1, by rw [List.length_nil] at hk; omega⟩
    have : l0.length ≤ i := by
      have := congrArg List.length hd
      rw [List.length_drop, List.length_nil] at this
      omega
    simp only [tree_May.l0]
    rw [if_neg (by omega)]
    rfl
  | cons x l ih =>
    intro i k hd hi hk
    rw [List.length_cons] at hk
    obtain ⟨k, rfl⟩ : ∃ j, k = j + 1 := ⟨k - 1, by omega⟩
    obtain ⟨hr, hlt, hd2⟩ := rd_drop l0 i x l hd
    have hi2 := ih (i + 1) k hd2 (by omega) (by omega)
    simp only [tree_May.l0]
    rw [if_pos (by omega), if_pos (by omega), if_pos (by omega), hr, may_eq x k (by omega), head_eq]
    have w1 : wrap64 ((i : Int) + 1) = ((i + 1 : Nat) : Int) := by rw [wrap_id (by omega) (by omega)]; omega
    rw [w1, hi2]
    clear w1
    simp only [Option.bind_some, allN, headB]
    cases mayN x with
    | false => rfl
    | true =>
      cases decide (x.f0 = 5 ∨ x.f0 = 6 ∨ x.f0 = 7) with
      | false => simp
      | true =>
        by_cases h0 : 0 < i
        · rw [if_pos rfl, if_pos rfl, if_pos (by omega), decide_eq_true h0]; rfl
        · rw [if_pos rfl, if_pos rfl, if_neg (by omega), decide_eq_false h0]; simp
def mayL (l : List Nd) : Bool := decide (endW kdT l 1 = some l.length) && decide (depL kdT l ≤ 40) && allN 0 l
theorem May_eqL (l : List Nd) (hl : l.length ≤ 1000000) (k : Nat) (hk : 5 * l.length + 420 ≤ k) : tree_May.f k l = some (mayL l) := by
  unfold tree_May.f mayL
  have e0 : (0 : Int) = ((0 : Nat) : Int) := rfl
  have hE := End_eq l hl 0 (by omega) k (by omega)
  rw [List.drop_zero, ← e0] at hE
  have hD := Depth_eq l hl k (by omega)
  obtain ⟨j, rfl⟩ : ∃ j, k = j + 1 := ⟨k - 1, by omega⟩
  have hM := May_l0 l hl l 0 j rfl (by omega) (by omega)
  rw [← e0] at hM
  rw [hE, hD]
  simp only [Option.bind_some, tree_May.j0, hM]
  cases h : endW kdT l 1 with
  | none => simp [outE]
  | some m =>
    simp only [outE, Nat.zero_add]
    rw [if_pos trivial]
    by_cases hm : m = l.length
    · subst hm
      rw [if_pos rfl]
      by_cases hd : depL kdT l ≤ 40
      · have : decide ((depL kdT l : Int) > 40) = false := decide_eq_false (by omega)
        rw [this, decide_eq_true hd]; simp
      · have : decide ((depL kdT l : Int) > 40) = true := decide_eq_true (by omega)
        rw [this, decide_eq_false hd]; simp
    · rw [if_neg (by omega), if_pos trivial]
      have : decide (some m = some l.length) = false := decide_eq_false (fun h => hm (Option.some.inj h))
      rw [this]; rfl
end Go.Proofs.Ytdelccahgchadaa
end
section
namespace Go.Proofs.Ytdelccahgchadaa
open Go.RowKit Go.Lib Go.Proofs.Ytdelccahgchadaa.P Go.Proofs.YtdelccahgchadaaW.PrintWords Go.Proofs.YtdelccahgchadaaW.PrintMore
set_option linter.unusedVariables false
theorem Grow_eq (n : Nat) (h : n ≤ 1000000) : api_Node_64.f (n : Int) = some [] := by
  unfold api_Node_64.f
  have hw : wrap64 (n : Int) = (n : Int) := wrap_id (by omega) (by omega)
  rw [hw]
  clear hw
  rw [if_neg (by omega)]
  by_cases h0 : (n : Int) > 0
  · have hb : ([] : List Nd).length + ((n : Int)).toNat < 1759218604441 := Nat.lt_of_le_of_lt (by rw [List.length_nil, Int.toNat_natCast]; omega : ([] : List Nd).length + ((n : Int)).toNat ≤ 1000000) (by decide)
    rw [if_pos h0, if_pos (by omega), if_pos hb]
    simp only [Option.bind_some]
    rw [if_pos (by omega)]
    rfl
  · rw [if_neg h0]
def lens (l : List (List Nd)) : Nat := (l.map List.length).sum
theorem rdL_at (l : List (List Nd)) (i : Nat) (h : i < l.length) : rd_L7 l (i : Int) = l[i] := by
  unfold rd_L7
  rw [Int.toNat_natCast, List.getD_eq_getElem?_getD, List.getElem?_eq_getElem h]
  rfl
theorem Concat_l1 (l : List (List Nd)) (hl : l.length ≤ 1000) : ∀ (m i k : Nat) (acc : List Nd), l.length - i < m → m ≤ k → i ≤ l.length → acc.length + lens (l.drop i) ≤ 1000000 → api_Node_48.l1 k acc l (l.length : Int) (i : Int) = some (acc ++ (l.drop i).flatten) := by
  intro m
  induction m with
  | zero => intro i k acc h; omega
  | succ m ih =>
    intro i k acc h hk hi hs
    obtain ⟨k, rfl⟩ : ∃ j, k = j + 1 := ⟨k - 1, by omega⟩
    simp only [api_Node_48.l1]
    by_cases hlt : (i : Int) < (l.length : Int)
    · have hil : i < l.length := by omega
      rw [List.drop_eq_getElem_cons hil] at hs ⊢
      simp only [lens, List.map_cons, List.sum_cons] at hs
      have hb : acc.length + l[i].length < 1759218604441 := Nat.lt_of_le_of_lt (by omega : acc.length + l[i].length ≤ 1000000) (by decide)
      rw [if_pos hlt, if_pos (by omega), if_pos hlt, rdL_at l i hil, if_pos hb]
      have hi2 := ih (i + 1) k (acc ++ l[i]) (by omega) (by omega) (by omega) (by rw [List.length_append]; unfold lens; omega)
      have hw : wrap64 ((i : Int) + 1) = ((i + 1 : Nat) : Int) := by rw [wrap_id (by omega) (by omega)]; omega
      rw [hw, hi2, List.flatten_cons, List.append_assoc]
    · rw [if_neg hlt, List.drop_eq_nil_of_le (by omega)]
      simp
theorem Concat_l0 (l : List (List Nd)) (hl : l.length ≤ 1000) (hs : lens l ≤ 1000000) : ∀ (m i k n : Nat), l.length - i < m → m + 1100 ≤ k → i ≤ l.length → n + lens (l.drop i) ≤ 1000000 → api_Node_48.l0 k l (n : Int) l (l.length : Int) (i : Int) = some l.flatten := by
  intro m
  induction m with
  | zero => intro i k n h; omega
  | succ m ih =>
    intro i k n h hk hi hn
    obtain ⟨k, rfl⟩ : ∃ j, k = j + 1 := ⟨k - 1, by omega⟩
    simp only [api_Node_48.l0]
    by_cases hlt : (i : Int) < (l.length : Int)
    · have hil : i < l.length := by omega
      rw [List.drop_eq_getElem_cons hil] at hn
      simp only [lens, List.map_cons, List.sum_cons] at hn
      have hi2 := ih (i + 1) k (n + l[i].length) (by omega) (by omega) (by omega) (by unfold lens; omega)
      rw [if_pos hlt, if_pos (by omega), if_pos hlt, rdL_at l i hil]
      have hw0 : wrap64 ((n : Int) + (l[i].length : Int)) = ((n + l[i].length : Nat) : Int) := by rw [wrap_id (by omega) (by omega)]; omega
      have hw : wrap64 ((i : Int) + 1) = ((i + 1 : Nat) : Int) := by rw [wrap_id (by omega) (by omega)]; omega
      rw [hw0, hw]
      clear hw hw0
      rw [if_neg (by omega), hi2]
    · have hg := Grow_eq n (by omega)
      rw [if_neg hlt, hg]
      simp only [Option.bind_some]
      have e0 : (0 : Int) = ((0 : Nat) : Int) := rfl
      rw [e0, Concat_l1 l hl (l.length + 1) 0 k [] (by omega) (by omega) (by omega) (by rw [List.drop_zero, List.length_nil]; omega), List.drop_zero, List.nil_append]
theorem Concat_eq (l : List (List Nd)) (hl : l.length ≤ 1000) (hs : lens l ≤ 1000000) (k : Nat) (hk : 2200 ≤ k) : api_Node_48.f k l = some l.flatten := by
  unfold api_Node_48.f
  have e0 : (0 : Int) = ((0 : Nat) : Int) := rfl
  rw [e0]
  exact Concat_l0 l hl hs (l.length + 1) 0 k 0 (by omega) (by omega) (by omega) (by rw [List.drop_zero]; omega)
theorem Node_eq (a : Int) (b c d : ByteArray) (e : List ByteArray) (l : List (List Nd)) (hl : l.length ≤ 1000) (hs : lens l ≤ 1000000) (k : Nat) (hk : 2200 ≤ k) : tree_Node.f k a b c d e l = some (⟨a, b, c, d, e⟩ :: l.flatten) := by
  unfold tree_Node.f
  rw [Concat_eq l hl hs k hk]
  simp only [Option.bind_some]
  have hf : l.flatten.length = lens l := by simp [lens, List.length_flatten]
  have hb : [(⟨a, b, c, d, e⟩ : Nd)].length + l.flatten.length < 1759218604441 := Nat.lt_of_le_of_lt (by rw [hf, List.length_singleton]; omega : [(⟨a, b, c, d, e⟩ : Nd)].length + l.flatten.length ≤ 1000001) (by decide)
  rw [if_pos hb]
  rfl
end Go.Proofs.Ytdelccahgchadaa
end
section
namespace Go.Proofs.Ytdelccahgchadaa
open Go.RowKit Go.Lib Go.Proofs.Ytdelccahgchadaa.P Go.Proofs.YtdelccahgchadaaW.PrintWords Go.Proofs.YtdelccahgchadaaW.PrintMore
set_option linter.unusedVariables false
def undP (l : List Nd) : Nat → Nat → List Nat
  | 0, _ => []
  | c + 1, p => p :: undP l c (match endW kdT (l.drop p) 1 with | none => 0 | some m => p + m)
theorem outE_fst (i : Nat) (o : Option Nat) : (outE i o).1 = (((match o with | none => 0 | some m => i + m) : Nat) : Int) := by cases o <;> rfl
theorem Under_l0 (l : List Nd) (hl : l.length ≤ 1000000) (K : Nat) (hK : K ≤ 3) : ∀ (c j p k : Nat) (acc : List Int), j + c = K → p ≤ l.length → l.length + c + 10 ≤ k → acc.length ≤ j →
    tree_Under.l0 k l acc (p : Int) (K : Int) (j : Int) = some (acc ++ (undP l c p).map fun n : Nat => (n : Int)) := by
  intro c
  induction c with
  | zero =>
    intro j p k acc hj hp hk ha
    obtain ⟨k, rfl⟩ : ∃ i, k = i + 1 := ⟨k - 1, by omega⟩
    simp only [tree_Under.l0]
    rw [if_neg (by omega)]
    simp [undP]
  | succ c ih =>
    intro j p k acc hj hp hk ha
    obtain ⟨k, rfl⟩ : ∃ i, k = i + 1 := ⟨k - 1, by omega⟩
    simp only [tree_Under.l0]
    have hb : acc.length < 17592186044416 := Nat.lt_of_le_of_lt (by omega : acc.length ≤ 3) (by decide)
    obtain ⟨q, hq⟩ : ∃ q, (match endW kdT (l.drop p) 1 with | none => 0 | some m => p + m) = q := ⟨_, rfl⟩
    have hql : q ≤ l.length := by
      rw [← hq]
      cases h : endW kdT (l.drop p) 1 with
      | none => exact Nat.zero_le _
      | some m =>
        have := (endW_le kdT h).1
        rw [List.length_drop] at this
        simp only []
        omega
    have hi2 := ih (j + 1) q k (acc ++ [(p : Int)]) (by omega) hql (by omega) (by rw [List.length_append, List.length_singleton]; omega)
    rw [if_pos (by omega), if_pos hb, End_eq l hl p hp k (by omega)]
    simp only [Option.bind_some]
    have hw : wrap64 ((j : Int) + 1) = ((j + 1 : Nat) : Int) := by rw [wrap_id (by omega) (by omega)]; omega
    rw [outE_fst, hq, hw, hi2]
    simp only [undP, hq, List.map_cons, List.append_assoc]
    rfl
def undL (l : List Nd) (i : Nat) : List Nat := match endW kdT (l.drop i) 1, l.drop i with | some _, x :: _ => undP l (kdT x).toNat (i + 1) | _, _ => []
theorem Under_eq (l : List Nd) (hl : l.length ≤ 1000000) (i : Nat) (hi : i ≤ l.length) (k : Nat) (hk : l.length + 20 ≤ k) : tree_Under.f k l (i : Int) = some ((undL l i).map fun n : Nat => (n : Int)) := by
  unfold tree_Under.f undL
  rw [End_eq l hl i hi k (by omega)]
  simp only [Option.bind_some]
  cases h : endW kdT (l.drop i) 1 with
  | none => simp [outE]
  | some m =>
    simp only [outE]
    rw [if_pos trivial]
    cases hd : l.drop i with
    | nil => rw [hd] at h; cases h
    | cons x r =>
      obtain ⟨hr, hlt, hd2⟩ := rd_drop l i x r hd
      rw [if_pos (by omega), if_pos (by omega), hr, Kids_eq _ _ _ _ _ k (by omega)]
      simp only [Option.bind_some]
      have hb := kdB_bounds x.f0 x.f1
      have hk0 : ¬ kdT x < 0 := by
        intro hn
        rw [hd] at h
        simp only [endW] at h
        rw [if_pos hn] at h
        cases h
      have hk1 : kdT x = kdB x.f0 x.f1 := rfl
      obtain ⟨c, hc⟩ : ∃ c, (kdT x).toNat = c := ⟨_, rfl⟩
      have hkc : kdB x.f0 x.f1 = (c : Int) := by omega
      have hu := Under_l0 l hl c (by omega) c 0 (i + 1) k [] (by omega) (by omega) (by omega) (by simp)
      have hw : wrap64 ((i : Int) + 1) = ((i + 1 : Nat) : Int) := by rw [wrap_id (by omega) (by omega)]; omega
      have e0 : (0 : Int) = ((0 : Nat) : Int) := rfl
      rw [hkc, hw, e0, hu, hc, List.nil_append]
theorem shown08_eq (k : Nat) (hk : 3000 ≤ k) : reredoslaw08_shown.f k = some true := by
  unfold reredoslaw08_shown.f reredoslaw08_lit.f
  simp only [Option.bind_some]
  rw [Node_eq _ _ _ _ _ _ (by decide) (by decide) k (by omega)]
  simp only [Option.bind_some]
  have hM := May_eqL ((⟨4, ⟨#[43]⟩, ⟨#[]⟩, ⟨#[]⟩, []⟩ : Nd) :: [[(⟨1, ⟨#[]⟩, ⟨#[]⟩, ⟨#[]⟩, [⟨#[49]⟩]⟩ : Nd)], [(⟨1, ⟨#[]⟩, ⟨#[]⟩, ⟨#[]⟩, [⟨#[50]⟩]⟩ : Nd)]].flatten) (by decide) k (by simp; omega)
  have hD := Depth_eq ((⟨4, ⟨#[43]⟩, ⟨#[]⟩, ⟨#[]⟩, []⟩ : Nd) :: [[(⟨1, ⟨#[]⟩, ⟨#[]⟩, ⟨#[]⟩, [⟨#[49]⟩]⟩ : Nd)], [(⟨1, ⟨#[]⟩, ⟨#[]⟩, ⟨#[]⟩, [⟨#[50]⟩]⟩ : Nd)]].flatten) (by decide) k (by simp; omega)
  have hU := Under_eq ((⟨4, ⟨#[43]⟩, ⟨#[]⟩, ⟨#[]⟩, []⟩ : Nd) :: [[(⟨1, ⟨#[]⟩, ⟨#[]⟩, ⟨#[]⟩, [⟨#[49]⟩]⟩ : Nd)], [(⟨1, ⟨#[]⟩, ⟨#[]⟩, ⟨#[]⟩, [⟨#[50]⟩]⟩ : Nd)]].flatten) (by decide) 0 (by decide) k (by simp; omega)
  have e1 : mayL ((⟨4, ⟨#[43]⟩, ⟨#[]⟩, ⟨#[]⟩, []⟩ : Nd) :: [[(⟨1, ⟨#[]⟩, ⟨#[]⟩, ⟨#[]⟩, [⟨#[49]⟩]⟩ : Nd)], [(⟨1, ⟨#[]⟩, ⟨#[]⟩, ⟨#[]⟩, [⟨#[50]⟩]⟩ : Nd)]].flatten) = true := by decide +kernel
  have e2 : depL kdT ((⟨4, ⟨#[43]⟩, ⟨#[]⟩, ⟨#[]⟩, []⟩ : Nd) :: [[(⟨1, ⟨#[]⟩, ⟨#[]⟩, ⟨#[]⟩, [⟨#[49]⟩]⟩ : Nd)], [(⟨1, ⟨#[]⟩, ⟨#[]⟩, ⟨#[]⟩, [⟨#[50]⟩]⟩ : Nd)]].flatten) = 2 := by decide +kernel
  have e3 : undL ((⟨4, ⟨#[43]⟩, ⟨#[]⟩, ⟨#[]⟩, []⟩ : Nd) :: [[(⟨1, ⟨#[]⟩, ⟨#[]⟩, ⟨#[]⟩, [⟨#[49]⟩]⟩ : Nd)], [(⟨1, ⟨#[]⟩, ⟨#[]⟩, ⟨#[]⟩, [⟨#[50]⟩]⟩ : Nd)]].flatten) 0 = [1, 2] := by decide +kernel
  have e0 : (0 : Int) = ((0 : Nat) : Int) := rfl
  rw [← e0] at hU
  rw [hM, hD, hU, e1, e2, e3]
  obtain ⟨k, rfl⟩ : ∃ j, k = j + 3 := ⟨k - 3, by omega⟩
  simp [reredosref03_Same.f, reredosref03_Same.l0, wrap64, rd, rd_T25]
end Go.Proofs.Ytdelccahgchadaa
end
section
namespace Go.Proofs.Ytdelccahgchadaa
open Go.RowKit Go.Lib Go.Proofs.Ytdelccahgchadaa.P Go.Proofs.YtdelccahgchadaaW.PrintWords Go.Proofs.YtdelccahgchadaaW.PrintMore
set_option linter.unusedVariables false
theorem Few_l1 (x : List Nd) (i : Nat) (hi : i < x.length) (hn : (rd_T25 x (i : Int)).f4.length ≤ 120) : ∀ (m j k : Nat), (rd_T25 x (i : Int)).f4.length - j < m → m ≤ k → j ≤ (rd_T25 x (i : Int)).f4.length → reredosref08_Few.l1 k x (i : Int) (j : Int) = some false ∨ ∃ k', k ≤ k' + m ∧ reredosref08_Few.l1 k x (i : Int) (j : Int) = reredosref08_Few.l0 k' x (wrap64 ((i : Int) + 1)) := by
  intro m
  induction m with
  | zero => intro j k h; omega
  | succ m ih =>
    intro j k h hk hj
    obtain ⟨k, rfl⟩ : ∃ q, k = q + 1 := ⟨k - 1, by omega⟩
    have e : reredosref08_Few.l1 (k + 1) x (i : Int) (j : Int) = if 0 ≤ (i : Int) then (if (i : Int) < (x.length : Int) then (if (j : Int) < (((rd_T25 x (i : Int)).f4).length : Int) then (if 0 ≤ (j : Int) then (if ((rdOf ByteArray.empty ((rd_T25 x (i : Int)).f4) (j : Int)).size : Int) > 120 then (some false) else (reredosref08_Few.l1 k x (i : Int) (wrap64 ((j : Int) + 1)))) else (none)) else (reredosref08_Few.l0 k x (wrap64 ((i : Int) + 1)))) else (none)) else (none) := by rw [reredosref08_Few.l1]
    rw [e, if_pos (by omega), if_pos (by omega)]
    by_cases hlt : (j : Int) < (((rd_T25 x (i : Int)).f4).length : Int)
    · rw [if_pos hlt, if_pos (by omega)]
      by_cases hs : ((rdOf ByteArray.empty ((rd_T25 x (i : Int)).f4) (j : Int)).size : Int) > 120
      · left; rw [if_pos hs]
      · rw [if_neg hs]
        have hi2 := ih (j + 1) k (by omega) (by omega) (by omega)
        have hw : wrap64 ((j : Int) + 1) = ((j + 1 : Nat) : Int) := by rw [wrap_id (by omega) (by omega)]; omega
        rw [hw]
        rcases hi2 with h1 | ⟨k', h1, h2⟩
        · exact .inl h1
        · exact .inr ⟨k', by omega, h2⟩
    · rw [if_neg hlt]
      exact .inr ⟨k, by omega, rfl⟩
theorem Few_l0 (x : List Nd) (hx : x.length ≤ 9223372036854775807) : ∀ (d i k : Nat), 81 - i ≤ d → i ≤ x.length → 200 * d + 200 ≤ k → ∃ b, reredosref08_Few.l0 k x (i : Int) = some b ∧ (b = true → x.length ≤ 80) := by
  intro d
  induction d with
  | zero =>
    intro i k hd hi hk
    obtain ⟨k, rfl⟩ : ∃ q, k = q + 2 := ⟨k - 2, by omega⟩
    have h81 : decide ((i : Int) < 81) = false := decide_eq_false (by omega)
    rw [reredosref08_Few.l0]
    by_cases hlt : (i : Int) < (x.length : Int)
    · rw [if_pos hlt, h81, reredosref08_Few.j1, if_neg (by decide)]
      exact ⟨_, rfl, fun h => by have := of_decide_eq_true h; omega⟩
    · rw [if_neg hlt, reredosref08_Few.j1, if_neg (by decide)]
      exact ⟨_, rfl, fun h => by have := of_decide_eq_true h; omega⟩
  | succ d ih =>
    intro i k hd hi hk
    obtain ⟨k, rfl⟩ : ∃ q, k = q + 3 := ⟨k - 3, by omega⟩
    rw [reredosref08_Few.l0]
    by_cases hlt : (i : Int) < (x.length : Int)
    · rw [if_pos hlt]
      by_cases h81 : (i : Int) < 81
      · rw [decide_eq_true h81, reredosref08_Few.j1, if_pos rfl, if_pos (by omega), if_pos hlt]
        have hj : ∀ b : Bool, (b = false → (rd_T25 x (i : Int)).f4.length ≤ 120) → ∃ r, reredosref08_Few.j2 (k + 1) x (i : Int) b = some r ∧ (r = true → x.length ≤ 80) := by
          intro b hb
          rw [reredosref08_Few.j2]
          cases b with
          | true => exact ⟨false, by rw [if_pos rfl], fun h => by cases h⟩
          | false =>
            rw [if_neg (by decide)]
            have h4 := hb rfl
            have e0 : (0 : Int) = ((0 : Nat) : Int) := rfl
            rcases Few_l1 x i (by omega) h4 121 0 k (by omega) (by omega) (by omega) with h1 | ⟨k', h1, h2⟩
            · rw [e0, h1]; exact ⟨false, rfl, fun h => by cases h⟩
            · have hi2 := ih (i + 1) k' (by omega) (by omega) (by omega)
              have hw : wrap64 ((i : Int) + 1) = ((i + 1 : Nat) : Int) := by rw [wrap_id (by omega) (by omega)]; omega
              rw [e0, h2, hw]
              exact hi2
        by_cases c1 : (((rd_T25 x (i : Int)).f1).size : Int) > 120
        · rw [if_pos c1]; exact hj true (fun h => by cases h)
        rw [if_neg c1]
        by_cases c2 : (((rd_T25 x (i : Int)).f2).size : Int) > 120
        · rw [if_pos c2]; exact hj true (fun h => by cases h)
        rw [if_neg c2]
        by_cases c3 : (((rd_T25 x (i : Int)).f3).size : Int) > 120
        · rw [if_pos c3]; exact hj true (fun h => by cases h)
        rw [if_neg c3]
        exact hj _ (fun h => by have := of_decide_eq_false h; omega)
      · rw [decide_eq_false h81, reredosref08_Few.j1, if_neg (by decide)]
        exact ⟨_, rfl, fun h => by have := of_decide_eq_true h; omega⟩
    · rw [if_neg hlt, reredosref08_Few.j1, if_neg (by decide)]
      exact ⟨_, rfl, fun h => by have := of_decide_eq_true h; omega⟩
theorem Few_eq (x : List Nd) (hx : x.length ≤ 9223372036854775807) (k : Nat) (hk : 17000 ≤ k) : ∃ b, reredosref08_Few.f k x = some b ∧ (b = true → x.length ≤ 80) := by
  unfold reredosref08_Few.f
  have e0 : (0 : Int) = ((0 : Nat) : Int) := rfl
  rw [e0]
  exact Few_l0 x hx 81 0 k (by omega) (by omega) (by omega)
end Go.Proofs.Ytdelccahgchadaa
end
section
namespace Go.Proofs.Ytdelccahgchadaa.P
open Go.RowKit Go.Proofs.YtdelccahgchadaaW.PrintWords Go.Proofs.YtdelccahgchadaaW.PrintLast Go.Proofs.YtdelccahgchadaaW.PrintMore
attribute [local go_sem] max2_int min2_int max_two min_two max_three min_three max_four min_four   
set_option linter.unusedVariables false
set_option linter.unusedSimpArgs false
end Go.Proofs.Ytdelccahgchadaa.P
end
section
namespace Go.Proofs.Ytdelccahgchadaa.P
open Go.RowKit Go.Proofs.YtdelccahgchadaaW.PrintWords Go.Proofs.YtdelccahgchadaaW.PrintLast Go.Proofs.YtdelccahgchadaaW.PrintMore
attribute [local go_sem] max2_int min2_int max_two min_two max_three min_three max_four min_four   
set_option linter.unusedVariables false
set_option linter.unusedSimpArgs false
end Go.Proofs.Ytdelccahgchadaa.P
end
section
namespace Go.Proofs.Ytdelccahgchadaa
open Go.RowKit Go.Lib Go.Proofs.Ytdelccahgchadaa.P Go.Proofs.YtdelccahgchadaaW.PrintWords Go.Proofs.YtdelccahgchadaaW.PrintMore
set_option linter.unusedVariables false
theorem toList_inj {a b : ByteArray} : a.toList = b.toList ↔ a = b := ⟨fun h => L_ext (by rw [← toList_L, ← toList_L]; exact h), fun h => by rw [h]⟩
theorem rd_get (l : List Nd) (i : Nat) (h : i < l.length) : rd_T25 l (i : Int) = l[i] := by
  unfold rd_T25
  rw [Int.toNat_natCast, List.getD_eq_getElem?_getD, List.getElem?_eq_getElem h]
  rfl
end Go.Proofs.Ytdelccahgchadaa
end
section
namespace Go.Proofs.Ytdelccahgchadaa
open Go.RowKit Go.Lib Go.Proofs.Ytdelccahgchadaa.P Go.Proofs.YtdelccahgchadaaW.PrintWords Go.Proofs.YtdelccahgchadaaW.PrintMore
set_option linter.unusedVariables false
theorem succ_w' {i : Nat} (h : i < 9223372036854775807) : wrap64 ((i : Int) + 1) = ((i + 1 : Nat) : Int) := by rw [wrap_id (by omega) (by omega)]; omega
theorem add_w {i j : Nat} (h : i + j ≤ 9223372036854775807) : wrap64 ((i : Int) + (j : Int)) = ((i + j : Nat) : Int) := by rw [wrap_id (by omega) (by omega)]; omega
theorem Ev.mk {α : Type} {g : Nat → Option α} {r : α} (K : Nat) (h : ∀ k, K ≤ k → g k = some r) : Ev g r := ⟨K, h⟩
theorem figs_drop {l : Bs} {i : Nat} (h : i < l.length) : figs (l.drop i) = (isFig l[i] && figs (l.drop (i + 1))) := by
  rw [List.drop_eq_getElem_cons h]; rfl
theorem RMay_l0 (s : ByteArray) (hs : (L s).length ≤ 9223372036854775807) : ∀ (m i : Nat), (L s).length - i < m → i ≤ (L s).length → Ev (fun k => reredosref01_May.l0 k s (i : Int)) (figs ((L s).drop i)) := by
  intro m
  induction m with
  | zero => intro i h; omega
  | succ m ih =>
    intro i h hi
    by_cases hlt : i < (L s).length
    · have hbt := L_bt s i hlt
      rw [figs_drop hlt]
      have hf : isFig (L s)[i] = true ↔ 48 ≤ ((L s)[i].toNat : Int) ∧ ((L s)[i].toNat : Int) ≤ 57 := by
        unfold isFig
        rw [Bool.and_eq_true, decide_eq_true_eq, decide_eq_true_eq]
        omega
      by_cases h1 : bt s (i : Int) < 48
      · have : isFig (L s)[i] = false := by rw [← Bool.not_eq_true, hf]; omega
        rw [this]
        refine Ev.step (f := fun _ => some false) (fun k => ?_) (Ev.now _)
        rw [reredosref01_May.l0, if_pos (by rw [L_size]; omega), if_pos (by omega), if_pos h1]
      · by_cases h2 : bt s (i : Int) > 57
        · have : isFig (L s)[i] = false := by rw [← Bool.not_eq_true, hf]; omega
          rw [this]
          refine Ev.step (f := fun _ => some false) (fun k => ?_) (Ev.now _)
          rw [reredosref01_May.l0, if_pos (by rw [L_size]; omega), if_pos (by omega), if_neg h1, if_pos h2]
        · have : isFig (L s)[i] = true := by rw [hf]; omega
          rw [this, Bool.true_and]
          refine Ev.step (fun k => ?_) (ih (i + 1) (by omega) (by omega))
          rw [reredosref01_May.l0, if_pos (by rw [L_size]; omega), if_pos (by omega), if_neg h1, if_neg h2, succ_w' (by omega)]
    · rw [List.drop_eq_nil_of_le (by omega)]
      refine Ev.step (f := fun _ => some true) (fun k => ?_) (Ev.now _)
      rw [reredosref01_May.l0, if_neg (by rw [L_size]; omega)]
theorem RMay_j1 (s : ByteArray) (hs : (L s).length ≤ 9223372036854775807) (i : Nat) (hi : i ≤ (L s).length) : Ev (fun k => reredosref01_May.j1 k s (i : Int)) (decide (1 ≤ ((L s).drop i).length) && decide (((L s).drop i).length ≤ 100) && !(((L s).drop i).head? == some 48) && figs ((L s).drop i)) := by
  have hw : wrap64 ((s.size : Int) - (i : Int)) = (((L s).length - i : Nat) : Int) := by rw [L_size, wrap_id (by omega) (by omega)]; omega
  have hj : ∀ b r, (b = true → r = false) → (b = false → r = figs ((L s).drop i)) → Ev (fun k => reredosref01_May.j2 k s (i : Int) b) r := by
    intro b r h1 h2
    cases b with
    | true =>
      rw [h1 rfl]
      exact Ev.step (f := fun _ => some false) (fun k => by show reredosref01_May.j2 (k + 1) s (i : Int) true = _; rw [reredosref01_May.j2, if_pos rfl]) (Ev.now _)
    | false =>
      rw [h2 rfl]
      exact Ev.step (fun k => by show reredosref01_May.j2 (k + 1) s (i : Int) false = reredosref01_May.l0 k s (i : Int); rw [reredosref01_May.j2, if_neg (by decide)]) (RMay_l0 s hs ((L s).length - i + 1) i (by omega) hi)
  rw [List.length_drop]
  by_cases h1 : (L s).length - i < 1
  · rw [decide_eq_false (by omega)]
    refine Ev.step (fun k => ?_) (hj true false (fun _ => rfl) (fun h => (by cases h)))
    rw [reredosref01_May.j1, hw]
    clear hw
    rw [if_pos (by omega)]
  · by_cases h2 : (L s).length - i > 100
    · rw [decide_eq_true (by omega), decide_eq_false (by omega)]
      refine Ev.step (fun k => ?_) (hj true false (fun _ => rfl) (fun h => (by cases h)))
      rw [reredosref01_May.j1, hw]
      clear hw
      rw [if_neg (by omega), if_pos (by omega)]
    · have hlt : i < (L s).length := by omega
      have hbt := L_bt s i hlt
      rw [decide_eq_true (by omega), decide_eq_true (by omega)]
      have hh : ((L s).drop i).head? = some (L s)[i] := by rw [List.drop_eq_getElem_cons hlt]; rfl
      rw [hh]
      have he : ((bt s (i : Int)) == 48) = (some (L s)[i] == some 48) := by
        rw [hbt, Bool.eq_iff_iff]
        rw [beq_iff_eq, beq_iff_eq, Option.some.injEq]
        exact byte_iff (L s)[i] 48
      refine Ev.step (f := fun k => reredosref01_May.j2 k s (i : Int) (some (L s)[i] == some 48)) (fun k => ?_) (hj (some (L s)[i] == some 48) (true && true && !(some (L s)[i] == some 48) && figs ((L s).drop i)) (fun h => by rw [h]; rfl) (fun h => by rw [h]; rfl))
      rw [reredosref01_May.j1, hw]
      clear hw
      rw [if_neg (by omega), if_neg (by omega), if_pos (by omega), if_pos (by rw [L_size]; omega), he]
theorem RMay_eq (s : ByteArray) (hs : (L s).length ≤ 9223372036854775807) : Ev (fun k => reredosref01_May.f k s) (mayB (L s)) := by
  have hl : s.toList = L s := toList_L s
  by_cases h0 : L s = [48]
  · have : mayB (L s) = true := by rw [h0]; decide
    rw [this]
    refine Ev.congr (f := fun _ => some true) (fun k => ?_) (Ev.now _)
    unfold reredosref01_May.f
    rw [if_pos (by rw [hl]; exact h0)]
  · have hm : mayB (L s) = (decide (1 ≤ (trimC 45 (L s)).length) && decide ((trimC 45 (L s)).length ≤ 100) && !((trimC 45 (L s)).head? == some 48) && figs (trimC 45 (L s))) := by
      have : (L s == [48]) = false := by rw [beq_eq_false_iff_ne]; exact h0
      simp only [mayB, this, Bool.or_false]
    rw [hm]
    by_cases hn : L s = []
    · rw [hn]
      have : Ev (fun k => reredosref01_May.j0 k s 0 false) false := by
        have := RMay_j1 s hs 0 (by omega)
        rw [hn] at this
        exact Ev.step (fun k => by show reredosref01_May.j0 (k + 1) s 0 false = reredosref01_May.j1 k s ((0 : Nat) : Int); rw [reredosref01_May.j0, if_neg (by decide)]; rfl) this
      refine Ev.congr (fun k => ?_) this
      unfold reredosref01_May.f
      rw [if_neg (by rw [hl]; exact h0), if_pos (by rw [hl]; exact hn)]
    · obtain ⟨c, r, hcr⟩ : ∃ c r, L s = c :: r := by
        cases h : L s with
        | nil => exact absurd h hn
        | cons c r => exact ⟨c, r, rfl⟩
      have hpos : 0 < (L s).length := by rw [hcr]; simp
      have hb0 : bt s 0 = (c.toNat : Int) := by
        have h1 := L_bt s 0 hpos
        have h2 : (L s)[0] = c := by simp [hcr]
        rw [h2] at h1
        exact h1
      have hf : ∀ k, reredosref01_May.f k s = reredosref01_May.j0 k s 0 (c == 45) := by
        intro k
        unfold reredosref01_May.f
        have he : ((bt s 0) == 45) = (c == 45) := by
          rw [hb0, Bool.eq_iff_iff, beq_iff_eq, beq_iff_eq]
          exact byte_iff c 45
        rw [if_neg (by rw [hl]; exact h0), if_neg (by rw [hl]; exact hn), if_pos (by rw [L_size]; omega), he]
      refine Ev.congr hf ?_
      by_cases h45 : c = 45
      · have ht : trimC 45 (L s) = (L s).drop 1 := by rw [hcr, h45]; simp [trimC]
        rw [ht]
        exact Ev.step (fun k => by show reredosref01_May.j0 (k + 1) s 0 (c == 45) = reredosref01_May.j1 k s ((1 : Nat) : Int); rw [reredosref01_May.j0, if_pos (by rw [beq_iff_eq]; exact h45)]; rfl) (RMay_j1 s hs 1 (by omega))
      · have ht : trimC 45 (L s) = (L s).drop 0 := by rw [hcr]; simp [trimC, h45]
        rw [ht]
        exact Ev.step (fun k => by show reredosref01_May.j0 (k + 1) s 0 (c == 45) = reredosref01_May.j1 k s ((0 : Nat) : Int); rw [reredosref01_May.j0, if_neg (by rw [beq_iff_eq]; exact h45)]; rfl) (RMay_j1 s hs 0 (by omega))
theorem has_l0 (s : ByteArray) (c : UInt8) (hs : (L s).length ≤ 9223372036854775807) : ∀ (m i : Nat), (L s).length - i < m → i ≤ (L s).length → Ev (fun k => reredosref07_has.l0 k s (c.toNat : Int) (i : Int)) (((L s).drop i).contains c) := by
  intro m
  induction m with
  | zero => intro i h; omega
  | succ m ih =>
    intro i h hi
    by_cases hlt : i < (L s).length
    · have hbt := L_bt s i hlt
      rw [List.drop_eq_getElem_cons hlt, List.contains_cons]
      by_cases he : (L s)[i] = c
      · have : (c == (L s)[i]) = true := by rw [beq_iff_eq]; exact he.symm
        rw [this, Bool.true_or]
        refine Ev.step (f := fun _ => some true) (fun k => ?_) (Ev.now _)
        rw [reredosref07_has.l0, if_pos (by rw [L_size]; omega), if_pos (by omega), if_pos (by rw [hbt, he])]
      · have : (c == (L s)[i]) = false := by rw [beq_eq_false_iff_ne]; exact fun h => he h.symm
        rw [this, Bool.false_or]
        refine Ev.step (fun k => ?_) (ih (i + 1) (by omega) (by omega))
        rw [reredosref07_has.l0, if_pos (by rw [L_size]; omega), if_pos (by omega), if_neg (by rw [hbt]; exact fun h => he ((byte_iff _ _).1 h)), succ_w' (by omega)]
    · rw [List.drop_eq_nil_of_le (by omega)]
      refine Ev.step (f := fun _ => some false) (fun k => ?_) (Ev.now _)
      rw [reredosref07_has.l0, if_neg (by rw [L_size]; omega)]
theorem has_eq (s : ByteArray) (c : UInt8) (hs : (L s).length ≤ 9223372036854775807) : Ev (fun k => reredosref07_has.f k s (c.toNat : Int)) ((L s).contains c) :=
  Ev.congr (fun k => rfl) (has_l0 s c hs ((L s).length + 1) 0 (by omega) (by omega))
theorem all_l0 (s t : ByteArray) (hs : (L s).length ≤ 9223372036854775807) (ht : (L t).length ≤ 9223372036854775807) : ∀ (m i : Nat), (L s).length - i < m → i ≤ (L s).length → Ev (fun k => reredosref07_all.l0 k s t (i : Int)) (((L s).drop i).all fun c => (L t).contains c) := by
  intro m
  induction m with
  | zero => intro i h; omega
  | succ m ih =>
    intro i h hi
    by_cases hlt : i < (L s).length
    · have hbt := L_bt s i hlt
      rw [List.drop_eq_getElem_cons hlt, List.all_cons]
      have hh := has_eq t (L s)[i] ht
      refine Ev.step (f := fun k => (reredosref07_has.f k t ((L s)[i].toNat : Int)).bind fun t274 => (if t274 = true then (reredosref07_all.l0 k s t ((i + 1 : Nat) : Int)) else (some false))) (fun k => ?_) (Ev.bind hh ?_)
      · rw [reredosref07_all.l0, if_pos (by rw [L_size]; omega), if_pos (by omega), hbt, succ_w' (by omega)]
      · cases (L t).contains (L s)[i] with
        | true => rw [Bool.true_and]; simp only [if_pos]; exact ih (i + 1) (by omega) (by omega)
        | false => rw [Bool.false_and]; simp only [Bool.false_eq_true, if_false]; exact Ev.now _
    · rw [List.drop_eq_nil_of_le (by omega)]
      refine Ev.step (f := fun _ => some true) (fun k => ?_) (Ev.now _)
      rw [reredosref07_all.l0, if_neg (by rw [L_size]; omega)]
theorem all_eq (s t : ByteArray) (hs : (L s).length ≤ 9223372036854775807) (ht : (L t).length ≤ 9223372036854775807) (i : Nat) (hi : i ≤ (L s).length) : Ev (fun k => reredosref07_all.f k s (i : Int) t) (((L s).drop i).all fun c => (L t).contains c) :=
  Ev.congr (fun k => rfl) (all_l0 s t hs ht ((L s).length - i + 1) i (by omega) hi)
end Go.Proofs.Ytdelccahgchadaa
end
section
namespace Go.Proofs.Ytdelccahgchadaa
open Go.RowKit Go.Lib Go.Proofs.Ytdelccahgchadaa.P Go.Proofs.YtdelccahgchadaaW.PrintWords Go.Proofs.YtdelccahgchadaaW.PrintMore
set_option linter.unusedVariables false
def bigs : Bs := [65, 66, 67, 68, 69, 70, 71, 72, 73, 74, 75, 76, 77, 78, 79, 80, 81, 82, 83, 84, 85, 86, 87, 88, 89, 90]
def lows : Bs := [97, 98, 99, 100, 101, 102, 103, 104, 105, 106, 107, 108, 109, 110, 111, 112, 113, 114, 115, 116, 117, 118, 119, 120, 121, 122]
def digs : Bs := [48, 49, 50, 51, 52, 53, 54, 55, 56, 57]
theorem by_byte (p : UInt8 → Bool) (h : ∀ n : Fin 256, p (UInt8.ofNat n.val) = true) (c : UInt8) : p c = true := by
  have := h ⟨c.toNat, c.toNat_lt⟩
  rw [UInt8.ofNat_toNat] at this
  exact this
theorem lows_eq (c : UInt8) : lows.contains c = isLow (c.toNat : Int) := by
  have := by_byte (fun c => lows.contains c == isLow (c.toNat : Int)) (by decide +kernel) c
  exact eq_of_beq this
theorem bigs_eq (c : UInt8) : bigs.contains c = isUp (c.toNat : Int) := by
  have := by_byte (fun c => bigs.contains c == isUp (c.toNat : Int)) (by decide +kernel) c
  exact eq_of_beq this
theorem digs_eq (c : UInt8) : digs.contains c = isD (c.toNat : Int) := by
  have := by_byte (fun c => digs.contains c == isD (c.toNat : Int)) (by decide +kernel) c
  exact eq_of_beq this
theorem words_eq (c : UInt8) : (lows ++ digs).contains c = isWordC (c.toNat : Int) := by
  have := by_byte (fun c => (lows ++ digs).contains c == isWordC (c.toNat : Int)) (by decide +kernel) c
  exact eq_of_beq this
theorem verbs_eq (c : UInt8) : (bigs ++ (lows ++ digs)).contains c = isVerbC (c.toNat : Int) := by
  have := by_byte (fun c => (bigs ++ (lows ++ digs)).contains c == isVerbC (c.toNat : Int)) (by decide +kernel) c
  exact eq_of_beq this
theorem kind_bt (s : ByteArray) (c : UInt8) (r : Bs) (hcr : L s = c :: r) : bt s 0 = (c.toNat : Int) := by
  have h1 := L_bt s 0 (by rw [hcr]; simp)
  have h2 : (L s)[0]'(by rw [hcr]; simp) = c := by simp [hcr]
  rw [h2] at h1
  exact h1
theorem has_at (s : ByteArray) (c : UInt8) (r : Bs) (hcr : L s = c :: r) (hs : (L s).length ≤ 9223372036854775807) (t : ByteArray) (ht : (L t).length ≤ 9223372036854775807) : Ev (fun k => reredosref07_has.f k t (bt s 0)) ((L t).contains c) := by
  rw [kind_bt s c r hcr]
  exact has_eq t c ht
theorem all_at (s : ByteArray) (c : UInt8) (r : Bs) (hcr : L s = c :: r) (hs : (L s).length ≤ 9223372036854775807) (t : ByteArray) (ht : (L t).length ≤ 9223372036854775807) : Ev (fun k => reredosref07_all.f k s 1 t) (r.all fun d => (L t).contains d) := by
  have := all_eq s t hs ht 1 (by rw [hcr]; simp)
  rw [show (L s).drop 1 = r by rw [hcr]; rfl] at this
  exact this
theorem kind_j4 (s : ByteArray) (c : UInt8) (r : Bs) (hcr : L s = c :: r) (hs : (L s).length ≤ 9223372036854775807) (b : Bool) : Ev (fun k => reredosref07_kind.j4 k s b) (if b = true then 6 else if (c = 95 ∨ isD (c.toNat : Int) = true) ∧ (r.all fun d => isD (d.toNat : Int)) = true then 1 else 0) := by
  have hsz : 0 < (s.size : Int) := by rw [L_size, hcr, List.length_cons]; omega
  have hd : (fun d : UInt8 => (L (⟨#[48, 49, 50, 51, 52, 53, 54, 55, 56, 57]⟩ : ByteArray)).contains d) = fun d => isD (d.toNat : Int) := funext digs_eq
  have h1 := has_at s c r hcr hs (⟨#[48, 49, 50, 51, 52, 53, 54, 55, 56, 57]⟩ : ByteArray) (by decide)
  have h2 := all_at s c r hcr hs (⟨#[48, 49, 50, 51, 52, 53, 54, 55, 56, 57]⟩ : ByteArray) (by decide)
  rw [show (L (⟨#[48, 49, 50, 51, 52, 53, 54, 55, 56, 57]⟩ : ByteArray)).contains c = isD (c.toNat : Int) from digs_eq c] at h1
  rw [hd] at h2
  have hend : Ev (fun k => (reredosref07_all.f k s 1 (⟨#[48, 49, 50, 51, 52, 53, 54, 55, 56, 57]⟩ : ByteArray)).bind fun t => (if t = true then some (1 : Int) else some 0)) (if (r.all fun d => isD (d.toNat : Int)) = true then 1 else 0) := by
    refine Ev.bind h2 ?_
    by_cases h : (r.all fun d => isD (d.toNat : Int)) = true
    · rw [if_pos h, h]; exact Ev.now _
    · rw [if_neg h, (by simpa using h : (r.all fun d => isD (d.toNat : Int)) = false)]; exact Ev.now _
  cases b with
  | true => exact Ev.step (f := fun _ => some 6) (fun k => by show reredosref07_kind.j4 (k + 1) s true = _; rw [reredosref07_kind.j4, if_pos rfl]) (Ev.now _)
  | false =>
    rw [if_neg (by decide)]
    by_cases h95 : c = 95
    · refine Ev.step (f := fun k => (reredosref07_all.f k s 1 (⟨#[48, 49, 50, 51, 52, 53, 54, 55, 56, 57]⟩ : ByteArray)).bind fun t => (if t = true then some (1 : Int) else some 0)) (fun k => ?_) ?_
      · show reredosref07_kind.j4 (k + 1) s false = _
        rw [reredosref07_kind.j4, if_neg (by decide), if_pos hsz, if_pos (by rw [kind_bt s c r hcr, h95]; rfl)]
      · simp only [h95, true_or, true_and]; exact hend
    · have hb : ¬ bt s 0 = 95 := by rw [kind_bt s c r hcr]; exact fun h => h95 ((byte_iff c 95).1 h)
      refine Ev.step (f := fun k => (reredosref07_has.f k (⟨#[48, 49, 50, 51, 52, 53, 54, 55, 56, 57]⟩ : ByteArray) (bt s 0)).bind fun t283 => (if t283 = true then ((reredosref07_all.f k s 1 (⟨#[48, 49, 50, 51, 52, 53, 54, 55, 56, 57]⟩ : ByteArray)).bind fun t284 => (if t284 = true then (some 1) else (some 0))) else (some 0))) (fun k => ?_) (Ev.bind h1 ?_)
      · show reredosref07_kind.j4 (k + 1) s false = _
        rw [reredosref07_kind.j4, if_neg (by decide), if_pos hsz, if_neg hb]
      · cases hD : isD (c.toNat : Int) with
        | true => simp only [or_true, true_and, if_true]; exact hend
        | false => simp only [h95, Bool.false_eq_true, or_false, false_and, if_false]; exact Ev.now _
theorem kind_one (s : ByteArray) (c : UInt8) (r : Bs) (hcr : L s = c :: r) (hs : (L s).length ≤ 9223372036854775807) (t : ByteArray) (ht : (L t).length ≤ 9223372036854775807) (g : Nat → Bool → Option Int) (G : Bool → Int) (hG : ∀ b, Ev (fun k => g k b) (G b)) : Ev (fun k => if (s.size : Int) = 1 then (if 0 < (s.size : Int) then ((reredosref07_has.f k t (bt s 0)).bind fun t279 => (g k t279)) else (none)) else (g k false)) (if r = [] ∧ (L t).contains c = true then G true else G false) := by
  have hlen : s.size = r.length + 1 := by rw [L_size, hcr, List.length_cons]
  by_cases h : r = []
  · have h1 : (s.size : Int) = 1 := by rw [hlen, h]; rfl
    refine Ev.congr (f := fun k => (reredosref07_has.f k t (bt s 0)).bind fun t279 => g k t279) (fun k => by rw [if_pos h1, if_pos (by omega)]) (Ev.bind (has_at s c r hcr hs t ht) ?_)
    cases (L t).contains c with
    | true => rw [if_pos ⟨h, rfl⟩]; exact hG true
    | false => rw [if_neg (fun hh => by cases hh.2)]; exact hG false
  · have h1 : ¬ (s.size : Int) = 1 := by
      intro hh
      exact h (List.length_eq_zero_iff.1 (by omega))
    refine Ev.congr (f := fun k => g k false) (fun k => by rw [if_neg h1]) ?_
    rw [if_neg (fun hh => h hh.1)]
    exact hG false
theorem kind_j3 (s : ByteArray) (c : UInt8) (r : Bs) (hcr : L s = c :: r) (hs : (L s).length ≤ 9223372036854775807) (b : Bool) : Ev (fun k => reredosref07_kind.j3 k s b) (if b = true then 5 else if r = [] ∧ marksL.contains c = true then 6 else if (c = 95 ∨ isD (c.toNat : Int) = true) ∧ (r.all fun d => isD (d.toNat : Int)) = true then 1 else 0) := by
  cases b with
  | true => exact Ev.step (f := fun _ => some 5) (fun k => by show reredosref07_kind.j3 (k + 1) s true = _; rw [reredosref07_kind.j3, if_pos rfl]) (Ev.now _)
  | false => exact Ev.step (fun k => by show reredosref07_kind.j3 (k + 1) s false = _; rw [reredosref07_kind.j3, if_neg (by decide)]) (kind_one s c r hcr hs (⟨#[40, 41, 91, 93, 123, 125, 58]⟩ : ByteArray) (by decide) (fun k b => reredosref07_kind.j4 k s b) _ (kind_j4 s c r hcr hs))
theorem kind_j2 (s : ByteArray) (c : UInt8) (r : Bs) (hcr : L s = c :: r) (hs : (L s).length ≤ 9223372036854775807) (b : Bool) : Ev (fun k => reredosref07_kind.j2 k s b) (if b = true then 4 else if r = [] ∧ advsL.contains c = true then 5 else if r = [] ∧ marksL.contains c = true then 6 else if (c = 95 ∨ isD (c.toNat : Int) = true) ∧ (r.all fun d => isD (d.toNat : Int)) = true then 1 else 0) := by
  cases b with
  | true => exact Ev.step (f := fun _ => some 4) (fun k => by show reredosref07_kind.j2 (k + 1) s true = _; rw [reredosref07_kind.j2, if_pos rfl]) (Ev.now _)
  | false => exact Ev.step (fun k => by show reredosref07_kind.j2 (k + 1) s false = _; rw [reredosref07_kind.j2, if_neg (by decide)]) (kind_one s c r hcr hs (⟨#[39, 47, 92, 46, 96]⟩ : ByteArray) (by decide) (fun k b => reredosref07_kind.j3 k s b) _ (kind_j3 s c r hcr hs))
theorem kind_j1 (s : ByteArray) (c : UInt8) (r : Bs) (hcr : L s = c :: r) (hs : (L s).length ≤ 9223372036854775807) (b : Bool) : Ev (fun k => reredosref07_kind.j1 k s b) (if b = true then 3 else if r = [] ∧ signsL.contains c = true then 4 else if r = [] ∧ advsL.contains c = true then 5 else if r = [] ∧ marksL.contains c = true then 6 else if (c = 95 ∨ isD (c.toNat : Int) = true) ∧ (r.all fun d => isD (d.toNat : Int)) = true then 1 else 0) := by
  cases b with
  | true => exact Ev.step (f := fun _ => some 3) (fun k => by show reredosref07_kind.j1 (k + 1) s true = _; rw [reredosref07_kind.j1, if_pos rfl]) (Ev.now _)
  | false => exact Ev.step (fun k => by show reredosref07_kind.j1 (k + 1) s false = _; rw [reredosref07_kind.j1, if_neg (by decide)]) (kind_one s c r hcr hs (⟨#[43, 45, 42, 37, 33, 38, 124, 60, 62, 61, 126, 44, 35, 94, 36, 63, 64]⟩ : ByteArray) (by decide) (fun k b => reredosref07_kind.j2 k s b) _ (kind_j2 s c r hcr hs))
theorem kind_two (s : ByteArray) (c : UInt8) (r : Bs) (hcr : L s = c :: r) (hs : (L s).length ≤ 9223372036854775807) (t u : ByteArray) (ht : (L t).length ≤ 9223372036854775807) (hu : (L u).length ≤ 9223372036854775807) (g : Nat → Bool → Option Int) (G : Bool → Int) (hG : ∀ b, Ev (fun k => g k b) (G b)) : Ev (fun k => if 0 < (s.size : Int) then ((reredosref07_has.f k t (bt s 0)).bind fun t275 => (if t275 = true then ((reredosref07_all.f k s 1 u).bind fun t276 => (g k t276)) else (g k false))) else (none)) (if (L t).contains c = true ∧ (r.all fun d => (L u).contains d) = true then G true else G false) := by
  have hsz : 0 < (s.size : Int) := by rw [L_size, hcr, List.length_cons]; omega
  refine Ev.congr (fun k => by rw [if_pos hsz]) (Ev.bind (has_at s c r hcr hs t ht) ?_)
  cases (L t).contains c with
  | false => rw [if_neg (fun hh => by cases hh.1)]; simp only [Bool.false_eq_true, if_false]; exact hG false
  | true =>
    simp only [if_true, true_and]
    refine Ev.bind (all_at s c r hcr hs u hu) ?_
    cases (r.all fun d => (L u).contains d) with
    | true => rw [if_pos rfl]; exact hG true
    | false => rw [if_neg (by decide)]; exact hG false
theorem kind_j0 (s : ByteArray) (c : UInt8) (r : Bs) (hcr : L s = c :: r) (hs : (L s).length ≤ 9223372036854775807) (b : Bool) : Ev (fun k => reredosref07_kind.j0 k s b) (if b = true then 2 else if isUp (c.toNat : Int) = true ∧ (r.all fun d => isVerbC (d.toNat : Int)) = true then 3 else if r = [] ∧ signsL.contains c = true then 4 else if r = [] ∧ advsL.contains c = true then 5 else if r = [] ∧ marksL.contains c = true then 6 else if (c = 95 ∨ isD (c.toNat : Int) = true) ∧ (r.all fun d => isD (d.toNat : Int)) = true then 1 else 0) := by
  cases b with
  | true => exact Ev.step (f := fun _ => some 2) (fun k => by show reredosref07_kind.j0 (k + 1) s true = _; rw [reredosref07_kind.j0, if_pos rfl]) (Ev.now _)
  | false =>
    have := kind_two s c r hcr hs (⟨#[65, 66, 67, 68, 69, 70, 71, 72, 73, 74, 75, 76, 77, 78, 79, 80, 81, 82, 83, 84, 85, 86, 87, 88, 89, 90]⟩ : ByteArray) (⟨#[65, 66, 67, 68, 69, 70, 71, 72, 73, 74, 75, 76, 77, 78, 79, 80, 81, 82, 83, 84, 85, 86, 87, 88, 89, 90, 97, 98, 99, 100, 101, 102, 103, 104, 105, 106, 107, 108, 109, 110, 111, 112, 113, 114, 115, 116, 117, 118, 119, 120, 121, 122, 48, 49, 50, 51, 52, 53, 54, 55, 56, 57]⟩ : ByteArray) (by decide) (by decide) (fun k b => reredosref07_kind.j1 k s b) _ (kind_j1 s c r hcr hs)
    rw [show (L (⟨#[65, 66, 67, 68, 69, 70, 71, 72, 73, 74, 75, 76, 77, 78, 79, 80, 81, 82, 83, 84, 85, 86, 87, 88, 89, 90]⟩ : ByteArray)).contains c = isUp (c.toNat : Int) from bigs_eq c] at this
    rw [show (fun d : UInt8 => (L (⟨#[65, 66, 67, 68, 69, 70, 71, 72, 73, 74, 75, 76, 77, 78, 79, 80, 81, 82, 83, 84, 85, 86, 87, 88, 89, 90, 97, 98, 99, 100, 101, 102, 103, 104, 105, 106, 107, 108, 109, 110, 111, 112, 113, 114, 115, 116, 117, 118, 119, 120, 121, 122, 48, 49, 50, 51, 52, 53, 54, 55, 56, 57]⟩ : ByteArray)).contains d) = fun d => isVerbC (d.toNat : Int) from funext verbs_eq] at this
    exact Ev.step (fun k => by show reredosref07_kind.j0 (k + 1) s false = _; rw [reredosref07_kind.j0, if_neg (by decide)]) this
theorem kind_eq (s : ByteArray) (hs : (L s).length ≤ 9223372036854775807) : Ev (fun k => reredosref07_kind.f k s) ((kindL (L s) : Nat) : Int) := by
  have hl : s.toList = L s := toList_L s
  cases hcr : L s with
  | nil => exact Ev.congr (f := fun _ => some 0) (fun k => by unfold reredosref07_kind.f; rw [if_pos (by rw [hl, hcr])]) (Ev.now _)
  | cons c r =>
    have := kind_two s c r hcr hs (⟨#[97, 98, 99, 100, 101, 102, 103, 104, 105, 106, 107, 108, 109, 110, 111, 112, 113, 114, 115, 116, 117, 118, 119, 120, 121, 122]⟩ : ByteArray) (⟨#[97, 98, 99, 100, 101, 102, 103, 104, 105, 106, 107, 108, 109, 110, 111, 112, 113, 114, 115, 116, 117, 118, 119, 120, 121, 122, 48, 49, 50, 51, 52, 53, 54, 55, 56, 57]⟩ : ByteArray) (by decide) (by decide) (fun k b => reredosref07_kind.j0 k s b) _ (kind_j0 s c r hcr hs)
    rw [show (L (⟨#[97, 98, 99, 100, 101, 102, 103, 104, 105, 106, 107, 108, 109, 110, 111, 112, 113, 114, 115, 116, 117, 118, 119, 120, 121, 122]⟩ : ByteArray)).contains c = isLow (c.toNat : Int) from lows_eq c] at this
    rw [show (fun d : UInt8 => (L (⟨#[97, 98, 99, 100, 101, 102, 103, 104, 105, 106, 107, 108, 109, 110, 111, 112, 113, 114, 115, 116, 117, 118, 119, 120, 121, 122, 48, 49, 50, 51, 52, 53, 54, 55, 56, 57]⟩ : ByteArray)).contains d) = fun d => isWordC (d.toNat : Int) from funext words_eq] at this
    have hk : ((kindL (c :: r) : Nat) : Int) = (if isLow (c.toNat : Int) = true ∧ (r.all fun d => isWordC (d.toNat : Int)) = true then 2 else if isUp (c.toNat : Int) = true ∧ (r.all fun d => isVerbC (d.toNat : Int)) = true then 3 else if r = [] ∧ signsL.contains c = true then 4 else if r = [] ∧ advsL.contains c = true then 5 else if r = [] ∧ marksL.contains c = true then 6 else if (c = 95 ∨ isD (c.toNat : Int) = true) ∧ (r.all fun d => isD (d.toNat : Int)) = true then 1 else 0) := by
      simp only [kindL]
      repeat' split
      all_goals rfl
    rw [hk]
    simp only [if_true, Bool.false_eq_true, if_false] at this
    exact Ev.congr (fun k => by unfold reredosref07_kind.f; rw [if_neg (by rw [hl, hcr]; simp)]) this
theorem number_iff (l : Bs) (c : UInt8) (r : Bs) (h : l = c :: r) : numberL l = (if c = 45 then none else if mayB (if c = 95 then 45 :: r else l) = true then some (if c = 95 then 45 :: r else l) else none) := by
  unfold numberL
  subst h
  by_cases h95 : c = 95
  · subst h95
    have e1 : trimC 95 ((95 : UInt8) :: r) = r := by simp [trimC]
    simp only [e1]
    rw [if_neg (fun h : r = 95 :: r => by have := congrArg List.length h; rw [List.length_cons] at this; omega), if_neg (show ¬ (95 : UInt8) = 45 by decide), if_pos (show True from trivial)]
    by_cases hm : mayB ((45 : UInt8) :: r) = true
    · rw [if_pos hm]
      have : figs r = true := by
        have hm2 := hm
        simp only [mayB, Bool.and_eq_true] at hm2
        have h2 := hm2.2
        have e2 : trimC 45 ((45 : UInt8) :: r) = r := by simp [trimC]
        rw [e2] at h2
        exact h2
      rw [if_pos (by rw [this, hm]; rfl)]
    · rw [if_neg hm, if_neg (by rw [Bool.and_eq_true]; exact fun h => hm h.2)]
  · have e1 : trimC 95 (c :: r) = c :: r := by simp [trimC, h95]
    simp only [e1]
    rw [if_pos trivial, if_neg h95]
    by_cases h45 : c = 45
    · subst h45
      rw [if_pos rfl, if_neg]
      rw [Bool.and_eq_true]
      rintro ⟨h, _⟩
      have : isFig 45 = true := by
        unfold figs at h
        rw [List.all_cons, Bool.and_eq_true] at h
        exact h.1
      revert this; decide
    · rw [if_neg h45]
      by_cases hm : mayB (c :: r) = true
      · have : figs (c :: r) = true := by
          have hm2 := hm
          simp only [mayB, Bool.and_eq_true] at hm2
          have h2 := hm2.2
          have e2 : trimC 45 (c :: r) = c :: r := by simp [trimC, h45]
          rw [e2] at h2
          exact h2
        rw [if_pos hm, if_pos (by rw [this, hm]; rfl)]
      · rw [if_neg hm, if_neg (by rw [Bool.and_eq_true]; exact fun h => hm h.2)]
theorem RNumber_eq (s : ByteArray) (hs : (L s).length ≤ 140737488351232) : Ev (fun k => reredosref07_Number.f k s) (outN (numberL (L s))) := by
  have hl : s.toList = L s := toList_L s
  have hmay : ∀ (t : ByteArray), (L t).length ≤ 140737488351232 → Ev (fun k => (reredosref01_May.f k t).bind fun b => (if b = true then some (t, true) else some ((⟨#[]⟩ : ByteArray), false))) (outN (if mayB (L t) = true then some (L t) else none)) := by
    intro t ht
    refine Ev.bind (RMay_eq t (by omega)) ?_
    cases mayB (L t) with
    | true => simp only [if_true, outN]; rw [mkB_L]; exact Ev.now _
    | false => simp only [Bool.false_eq_true, if_false, outN]; exact Ev.now _
  cases hcr : L s with
  | nil =>
    have : outN (numberL []) = outN (if mayB (L s) = true then some (L s) else none) := by rw [hcr]; decide
    rw [this]
    refine Ev.congr (fun k => ?_) (Ev.step (g := fun k => reredosref07_Number.j0 k s s false) (fun k => ?_) (hmay s hs))
    · unfold reredosref07_Number.f
      rw [if_pos (by rw [hl, hcr])]
    · show reredosref07_Number.j0 (k + 1) s s false = _
      rw [reredosref07_Number.j0, if_neg (by decide), if_pos (by rw [hl, hcr])]
  | cons c r =>
    have hb := kind_bt s c r hcr
    have hsz : 0 < (s.size : Int) := by rw [L_size, hcr, List.length_cons]; omega
    have hne : ¬ s.toList = ([] : List UInt8) := by rw [hl, hcr]; simp
    have hf : ∀ k, reredosref07_Number.f k s = reredosref07_Number.j0 k s s (c == 95) := by
      intro k
      unfold reredosref07_Number.f
      have : ((bt s 0) == 95) = (c == 95) := by
        rw [hb, Bool.eq_iff_iff, beq_iff_eq, beq_iff_eq]
        exact byte_iff c 95
      rw [if_neg hne, if_pos hsz, this]
    rw [← hcr, number_iff (L s) c r hcr]
    refine Ev.congr hf ?_
    have h45 : bt s 0 = 45 ↔ c = 45 := by rw [hb]; exact byte_iff c 45
    by_cases h95 : c = 95
    · subst h95
      have hx : L ((⟨#[45]⟩ : ByteArray) ++ (s.extract 1 s.size)) = 45 :: r := by
        rw [L_append, L_end, hcr]; rfl
      have hlr : r.length + 1 = (L s).length := by rw [hcr, List.length_cons]
      have hsx : (s.extract 1 s.size).size = r.length := by rw [L_size, L_end, hcr]; rfl
      have hm := hmay ((⟨#[45]⟩ : ByteArray) ++ (s.extract 1 s.size)) (by rw [hx, List.length_cons]; omega)
      rw [hx] at hm
      rw [if_neg (by decide), if_pos rfl]
      refine Ev.step (fun k => ?_) hm
      show reredosref07_Number.j0 (k + 1) s s ((95 : UInt8) == 95) = _
      rw [reredosref07_Number.j0, if_pos (by decide), if_pos (by omega), if_pos (by rw [hsx]; omega), if_neg hne, if_pos hsz, if_neg (by rw [h45]; decide)]
    · have hb95 : (c == 95) = false := by rw [beq_eq_false_iff_ne]; exact h95
      rw [if_neg h95, hb95]
      by_cases hc45 : c = 45
      · rw [if_pos hc45]
        refine Ev.step (f := fun _ => some ((⟨#[]⟩ : ByteArray), false)) (fun k => ?_) (Ev.now _)
        show reredosref07_Number.j0 (k + 1) s s false = _
        rw [reredosref07_Number.j0, if_neg (by decide), if_neg hne, if_pos hsz, if_pos (h45.2 hc45)]
      · rw [if_neg hc45]
        refine Ev.step (fun k => ?_) (hmay s hs)
        show reredosref07_Number.j0 (k + 1) s s false = _
        rw [reredosref07_Number.j0, if_neg (by decide), if_neg hne, if_pos hsz, if_neg (fun h => hc45 (h45.1 h))]
end Go.Proofs.Ytdelccahgchadaa
end
section
namespace Go.Proofs.Ytdelccahgchadaa
open Go.RowKit Go.Lib Go.Proofs.Ytdelccahgchadaa.P Go.Proofs.YtdelccahgchadaaW.PrintWords Go.Proofs.YtdelccahgchadaaW.PrintMore
set_option linter.unusedVariables false
theorem long_le (c : UInt8) (r : Bs) : (longL (c :: r)).2 ≤ r.length + 1 ∧ (1 ≤ (longL (c :: r)).2 ↔ (longL (c :: r)).1 ≠ 0) := by
  have hW := runL_le isWordC r
  have hV := runL_le isVerbC r
  have hD := runL_le isD r
  simp only [longL]
  repeat' split
  all_goals exact ⟨by simp only []; omega, ⟨fun h => by simp only [] at h ⊢; omega, fun h => by simp only [] at h ⊢; omega⟩⟩
def outAt (p : Nat) (acc : List S71) (o : Nat ⊕ List Tk) : List S71 × Int × Int := match o with | .inl e => ([], (e : Int), 2) | .inr ts => (acc ++ ts.map encT, 0, 0)
theorem RLex_l0 (s : ByteArray) (hs : s.size ≤ 256) : ∀ (m p : Nat) (acc : List S71), p ≤ s.size → s.size - p < m → acc.length ≤ p →
    Ev (fun k => reredosref07_Lex.l0 k s acc (p : Int)) (outAt p acc (lexF m p ((L s).drop p))) := by
  intro m
  induction m with
  | zero => intro p acc _ h; omega
  | succ m ih =>
    intro p acc hp hm ha
    have hlen : ((L s).drop p).length = s.size - p := by rw [List.length_drop, ← L_size]
    cases hl : (L s).drop p with
    | nil =>
      rw [hl, List.length_nil] at hlen
      refine Ev.step (f := fun _ => some (acc, 0, 0)) (fun k => ?_) (by simp only [lexF, outAt, List.map_nil, List.append_nil]; exact Ev.now _)
      show reredosref07_Lex.l0 (k + 1) s acc (p : Int) = _
      rw [reredosref07_Lex.l0, if_neg (by omega)]
    | cons c l =>
      rw [hl, List.length_cons] at hlen
      have hpl : p < (L s).length := by rw [← L_size]; omega
      have hg : (L s)[p] = c := by
        have := List.drop_eq_getElem_cons hpl
        rw [hl] at this
        injection this with h1 h2
        exact h1.symm
      have hbt := L_bt s p hpl
      rw [hg] at hbt
      simp only [lexF]
      by_cases hc : c = 32
      · rw [if_pos hc]
        have := ih (p + 1) acc (by omega) (by omega) (by omega)
        have hd : (L s).drop (p + 1) = l := by rw [← List.drop_drop, hl]; rfl
        rw [hd] at this
        refine Ev.step (fun k => ?_) this
        show reredosref07_Lex.l0 (k + 1) s acc (p : Int) = _
        rw [reredosref07_Lex.l0, if_pos (by omega), if_pos (by omega), if_pos (by rw [hbt, hc]; rfl), succ_w' (by omega)]
      · rw [if_neg hc]
        have step0 : ∀ k, reredosref07_Lex.l0 (k + 1) s acc (p : Int) = reredosref07_Lex.l1 k s acc (p : Int) ((0 : Nat) : Int) := by
          intro k
          rw [reredosref07_Lex.l0, if_pos (by omega), if_pos (by omega), if_neg (by rw [hbt]; exact fun h => hc ((byte_iff c 32).1 h))]
          rfl
        obtain ⟨hle, hpos⟩ := long_le c l
        
        have hext : ∀ n, p + n ≤ s.size → L (s.extract (p : Int).toNat ((p + n : Nat) : Int).toNat) = (c :: l).take n := by
          intro n hn
          rw [L_extract, Int.toNat_natCast, Int.toNat_natCast, hl, Nat.add_sub_cancel_left]
        have hkn : ∀ n, p + n ≤ s.size → Ev (fun k => reredosref07_kind.f k (s.extract (p : Int).toNat ((p + n : Nat) : Int).toNat)) ((kindL ((c :: l).take n) : Nat) : Int) := by
          intro n hn
          have := kind_eq (s.extract (p : Int).toNat ((p + n : Nat) : Int).toNat) (by rw [hext n hn, List.length_take]; omega)
          rw [hext n hn] at this
          exact this
        have hl1 : ∀ (d n : Nat) (R : List S71 × Int × Int), (longL (c :: l)).2 - n = d → n ≤ (longL (c :: l)).2 → Ev (fun k => reredosref07_Lex.j2 k s acc (p : Int) (((longL (c :: l)).2 : Nat) : Int)) R → Ev (fun k => reredosref07_Lex.l1 k s acc (p : Int) (n : Int)) R := by
          intro d
          induction d with
          | zero =>
            intro n R hd hn hR
            obtain rfl : n = (longL (c :: l)).2 := by omega
            by_cases hlt : p + (longL (c :: l)).2 < s.size
            · have hk := hkn ((longL (c :: l)).2 + 1) (by omega)
              rw [kind_take c l _ (by omega), if_neg (by omega)] at hk
              refine Ev.step (f := fun k => (reredosref07_kind.f k (s.extract (p : Int).toNat ((p + ((longL (c :: l)).2 + 1) : Nat) : Int).toNat)).bind fun t289 => (if t289 > 0 then (reredosref07_Lex.l1 k s acc (p : Int) (wrap64 (((longL (c :: l)).2 : Int) + 1))) else (reredosref07_Lex.j2 k s acc (p : Int) ((longL (c :: l)).2 : Int)))) (fun k => ?_) (Ev.bind hk ?_)
              · show reredosref07_Lex.l1 (k + 1) s acc (p : Int) ((longL (c :: l)).2 : Int) = _
                rw [reredosref07_Lex.l1, add_w (by omega), succ_w' (by omega), if_pos (by omega), if_pos (by omega), if_pos (by omega), if_pos (by omega)]
                rfl
              · exact Ev.congr (fun k => by rw [if_neg (by decide)]) hR
            · refine Ev.step (fun k => ?_) hR
              show reredosref07_Lex.l1 (k + 1) s acc (p : Int) ((longL (c :: l)).2 : Int) = _
              rw [reredosref07_Lex.l1, add_w (by omega), if_neg (by omega)]
          | succ d ihd =>
            intro n R hd hn hR
            have hk := hkn (n + 1) (by omega)
            rw [kind_take c l _ (by omega), if_pos (by omega)] at hk
            have h1 : (longL (c :: l)).1 ≠ 0 := hpos.1 (by omega)
            refine Ev.step (f := fun k => (reredosref07_kind.f k (s.extract (p : Int).toNat ((p + (n + 1) : Nat) : Int).toNat)).bind fun t289 => (if t289 > 0 then (reredosref07_Lex.l1 k s acc (p : Int) ((n + 1 : Nat) : Int)) else (reredosref07_Lex.j2 k s acc (p : Int) (n : Int)))) (fun k => ?_) (Ev.bind hk ?_)
            · show reredosref07_Lex.l1 (k + 1) s acc (p : Int) (n : Int) = _
              rw [reredosref07_Lex.l1, add_w (by omega), succ_w' (by omega), succ_w' (by omega), if_pos (by omega), if_pos (by omega), if_pos (by omega), if_pos (by omega)]
              rfl
            · exact Ev.congr (fun k => by rw [if_pos (by omega)]) (ihd (n + 1) R (by omega) (by omega) hR)
        refine Ev.step (fun k => step0 k) (hl1 _ 0 _ rfl (by omega) ?_)
        obtain ⟨n, hn⟩ : ∃ n, (longL (c :: l)).2 = n := ⟨_, rfl⟩
        obtain ⟨kk, hkk⟩ : ∃ kk, (longL (c :: l)).1 = kk := ⟨_, rfl⟩
        have hfl := first_long c l
        rw [hn] at hle
        rw [hn, hkk] at hpos hfl
        rw [hn]
        have hw : ∀ k, reredosref07_Lex.j2 (k + 1) s acc (p : Int) (n : Int) = (reredosref07_Number.f k (s.extract (p : Int).toNat ((p + n : Nat) : Int).toNat)).bind fun bt290 => (if (n : Int) = 0 then (some (([] : List S71), (p : Int), 2)) else ((reredosref07_kind.f k (s.extract (p : Int).toNat ((p + n : Nat) : Int).toNat)).bind fun t292 => (if t292 = 1 then (if bt290.2 = true then ((reredosref07_kind.f k (s.extract (p : Int).toNat ((p + n : Nat) : Int).toNat)).bind fun t293 => (if acc.length < 4398046511104 then (reredosref07_Lex.l0 k s (acc ++ [(⟨t293, s.extract (p : Int).toNat ((p + n : Nat) : Int).toNat, (p : Int)⟩ : S71)]) ((p + n : Nat) : Int)) else (none))) else (some (([] : List S71), (p : Int), 2))) else ((reredosref07_kind.f k (s.extract (p : Int).toNat ((p + n : Nat) : Int).toNat)).bind fun t297 => (if acc.length < 4398046511104 then (reredosref07_Lex.l0 k s (acc ++ [(⟨t297, s.extract (p : Int).toNat ((p + n : Nat) : Int).toNat, (p : Int)⟩ : S71)]) ((p + n : Nat) : Int)) else (none)))))) := by
          intro k
          rw [reredosref07_Lex.j2, add_w (by omega), if_pos (by omega), if_pos (by omega), if_pos (by omega)]
        have hnum := RNumber_eq (s.extract (p : Int).toNat ((p + n : Nat) : Int).toNat) (by rw [hext n (by omega), List.length_take]; omega)
        rw [hext n (by omega)] at hnum
        refine Ev.step hw (Ev.bind hnum ?_)
        by_cases hn0 : n = 0
        · have hk0 : kk = 0 := by
            rcases Nat.eq_zero_or_pos kk with h | h
            · exact h
            · have := hpos.2 (by omega); omega
          rw [hk0, if_pos rfl] at hfl
          rw [hfl]
          simp only [outAt]
          exact Ev.congr (f := fun _ => some (([] : List S71), (p : Int), (2 : Int))) (fun k => by rw [if_pos (by omega)]) (Ev.now _)
        · have hk0 : kk ≠ 0 := hpos.1 (by omega)
          have hk := hkn n (by omega)
          have hkt := kind_take c l (n - 1) (by omega)
          rw [show n - 1 + 1 = n by omega, hn, hkk, if_pos (Nat.le_refl _)] at hkt
          rw [hkt] at hk
          have hacc : acc.length < 4398046511104 := Nat.lt_of_le_of_lt ha (Nat.lt_of_le_of_lt hp (Nat.lt_of_le_of_lt hs (by decide)))
          have hy : s.extract (p : Int).toNat ((p + n : Nat) : Int).toNat = mkB ((c :: l).take n) := L_ext (by rw [hext n (by omega), L_mk])
          have hd : (L s).drop (p + n) = (c :: l).drop n := by rw [← List.drop_drop, hl]
          have hrec := ih (p + n) (acc ++ [(⟨(kk : Int), mkB ((c :: l).take n), (p : Int)⟩ : S71)]) (by omega) (by omega) (by rw [List.length_append, List.length_singleton]; omega)
          rw [hd] at hrec
          have hgo : Ev (fun k => (reredosref07_kind.f k (s.extract (p : Int).toNat ((p + n : Nat) : Int).toNat)).bind fun t293 => (if acc.length < 4398046511104 then (reredosref07_Lex.l0 k s (acc ++ [(⟨t293, s.extract (p : Int).toNat ((p + n : Nat) : Int).toNat, (p : Int)⟩ : S71)]) ((p + n : Nat) : Int)) else (none))) (outAt p acc (match lexF m (p + n) ((c :: l).drop n) with | .inl e => .inl e | .inr ts => .inr (⟨kk, (c :: l).take n, p⟩ :: ts))) := by
            refine Ev.bind hk (Ev.congr (fun k => by rw [if_pos hacc, hy]) ?_)
            have : outAt p acc (match lexF m (p + n) ((c :: l).drop n) with | .inl e => .inl e | .inr ts => .inr (⟨kk, (c :: l).take n, p⟩ :: ts)) = outAt (p + n) (acc ++ [(⟨(kk : Int), mkB ((c :: l).take n), (p : Int)⟩ : S71)]) (lexF m (p + n) ((c :: l).drop n)) := by
              cases lexF m (p + n) ((c :: l).drop n) with
              | inl e => rfl
              | inr ts => simp [outAt, encT]
            rw [this]
            exact hrec
          rw [if_neg hk0] at hfl
          by_cases h1 : kk = 1
          · cases hno : numberL ((c :: l).take n) with
            | none =>
              rw [hno, if_pos ⟨h1, rfl⟩] at hfl
              rw [hfl]
              simp only [outAt, outN, if_true]
              refine Ev.congr (fun k => by rw [if_neg (by omega)]) (Ev.bind hk ?_)
              exact Ev.congr (f := fun _ => some (([] : List S71), (p : Int), (2 : Int))) (fun k => by rw [if_pos (by omega)]; simp) (Ev.now _)
            | some x =>
              rw [hno, if_neg (fun h => by cases h.2)] at hfl
              have hll : longL (c :: l) = (kk, n) := Prod.ext hkk hn
              rw [hfl, hll]
              simp only [outN]
              rw [if_neg hk0]
              refine Ev.congr (fun k => by rw [if_neg (by omega)]) (Ev.bind hk ?_)
              exact Ev.congr (fun k => by rw [if_pos (by omega)]; simp only [if_true]) hgo
          · rw [if_neg (fun h => h1 h.1)] at hfl
            have hll : longL (c :: l) = (kk, n) := Prod.ext hkk hn
            rw [hfl, hll]
            simp only []
            rw [if_neg hk0]
            refine Ev.congr (fun k => by rw [if_neg (by omega)]) (Ev.bind hk ?_)
            exact Ev.congr (fun k => by rw [if_neg (by omega)]) hgo
theorem RLex_eq (s : ByteArray) (hs : s.size ≤ 256) : Ev (fun k => reredosref07_Lex.f k s) (outL (lexL (L s))) := by
  have := RLex_l0 s hs (s.size + 1) 0 [] (by omega) (by omega) (by simp)
  rw [List.drop_zero, L_size s] at this
  have e : outL (lexL (L s)) = outAt 0 [] (lexF ((L s).length + 1) 0 (L s)) := by
    unfold lexL
    cases lexF ((L s).length + 1) 0 (L s) with
    | inl e => rfl
    | inr ts => rfl
  rw [e]
  exact Ev.congr (fun k => by unfold reredosref07_Lex.f; rw [if_neg (by omega)]; rfl) this
theorem RLex_big (s : ByteArray) (hs : 256 < s.size) (k : Nat) : reredosref07_Lex.f k s = some ([], 0, 8) := by
  unfold reredosref07_Lex.f
  rw [if_pos (by omega)]
end Go.Proofs.Ytdelccahgchadaa
end
section
namespace Go.Proofs.Ytdelccahgchadaa
open Go.RowKit Go.Proofs.YtdelccahgchadaaW.PrintWords Go.Proofs.YtdelccahgchadaaW.PrintMore
set_option linter.unusedVariables false
section
variable {α : Type} (kd : α → Int)
theorem endW_split {l : List α} {c n : Nat} (h : endW kd l (c + 1) = some n) : ∃ m, endW kd l 1 = some m ∧ endW kd (l.drop m) c = some (n - m) ∧ m ≤ n ∧ 1 ≤ m ∧ m ≤ l.length := by
  rw [Nat.add_comm, endW_add] at h
  cases h1 : endW kd l 1 with
  | none => rw [h1] at h; cases h
  | some m =>
    rw [h1] at h
    obtain ⟨j, h2, h3⟩ := Option.map_eq_some_iff.1 h
    have hl := endW_le kd h1
    refine ⟨m, rfl, ?_, by omega, hl.2 (by omega), hl.1⟩
    rw [h2, show n - m = j by omega]
theorem depL_eq {l : List α} {m : Nat} (h : endW kd l 1 = some m) : depL kd l = mach kd l [] 0 := by unfold depL; rw [h]
theorem endW_seg {l : List α} {m : Nat} (h : endW kd l 1 = some m) : endW kd (l.take m) 1 = some (l.take m).length := by
  have hl := (endW_le kd h).1
  rw [endW_take kd h, List.length_take, Nat.min_eq_left hl]
theorem mach_forest {l : List α} {m : Nat} (c most : Nat) (h : endW kd l 1 = some m) : mach kd l [c + 1] most = (if c = 0 then max most (1 + depL kd (l.take m)) else mach kd (l.drop m) [c] (max most (1 + depL kd (l.take m)))) := by
  have hs := endW_seg kd h
  have := mach_shift kd (l.take m) [] [c + 1] (l.drop m) most (fun c hc => by cases hc) hs
  rw [List.take_append_drop, List.nil_append] at this
  rw [this, depL_eq kd hs]
  unfold fin
  simp only [dec, List.length_cons, List.length_nil, Nat.zero_add, Nat.add_sub_cancel]
  by_cases h0 : c = 0
  · rw [if_pos (by omega), if_pos h0]
  · rw [if_neg (by omega), if_neg h0]
theorem depL_cons {x : α} {r : List α} {m : Nat} (h : endW kd (x :: r) 1 = some m) : depL kd (x :: r) = (if (kd x).toNat = 0 then 1 else mach kd r [(kd x).toNat] 1) := by
  rw [depL_eq kd h]
  by_cases h0 : (kd x).toNat = 0
  · rw [mach_cons0 kd _ _ _ _ h0, if_pos h0]; rfl
  · rw [mach_consS kd _ _ _ _ h0, if_neg h0]; rfl
theorem endW_cons {x : α} {r : List α} {m : Nat} (h : endW kd (x :: r) 1 = some m) : ¬ kd x < 0 ∧ 1 ≤ m ∧ endW kd r (kd x).toNat = some (m - 1) := by
  simp only [endW] at h
  by_cases h0 : kd x < 0
  · rw [if_pos h0] at h; cases h
  · rw [if_neg h0, Nat.zero_add] at h
    obtain ⟨j, h1, h2⟩ := Option.map_eq_some_iff.1 h
    exact ⟨h0, by omega, by rw [h1, show m - 1 = j by omega]⟩
end
end Go.Proofs.Ytdelccahgchadaa
end
section
namespace Go.Proofs.Ytdelccahgchadaa
open Go.RowKit Go.Lib Go.Proofs.Ytdelccahgchadaa.P Go.Proofs.YtdelccahgchadaaW.PrintWords Go.Proofs.YtdelccahgchadaaW.PrintMore
set_option linter.unusedVariables false
theorem RKids_eq (f0 : Int) (v a n : ByteArray) (l : List ByteArray) : Ev (fun k => reredosref08_Kids.f k f0 v a n l) (kdB f0 v) := by
  refine ⟨1, fun k hk => ?_⟩
  obtain ⟨k, rfl⟩ : ∃ j, k = j + 1 := ⟨k - 1, by omega⟩
  show reredosref08_Kids.f (k + 1) f0 v a n l = _
  unfold reredosref08_Kids.f
  simp only [Option.bind_some]
  by_cases h1 : f0 < 1
  · rw [if_pos h1, reredosref08_Kids.j0, if_pos rfl]
    unfold kdB
    simp only []
    rw [if_neg (by omega), if_neg (by omega), if_neg (by omega), if_neg (by omega), if_neg (by omega)]
  · rw [if_neg h1]
    by_cases h8 : f0 > 8
    · rw [decide_eq_true h8, reredosref08_Kids.j0, if_pos rfl]
      unfold kdB
      simp only []
      rw [if_neg (by omega), if_neg (by omega), if_neg (by omega), if_neg (by omega), if_neg (by omega)]
    · rw [decide_eq_false h8, reredosref08_Kids.j0, if_neg (by decide)]
      have : f0 = 1 ∨ f0 = 2 ∨ f0 = 3 ∨ f0 = 4 ∨ f0 = 5 ∨ f0 = 6 ∨ f0 = 7 ∨ f0 = 8 := by omega
      unfold kdB
      by_cases hv : v.toList = ([123] : List UInt8)
      · rcases this with rfl | rfl | rfl | rfl | rfl | rfl | rfl | rfl <;> simp [hv, rd, wrap64]
      · rcases this with rfl | rfl | rfl | rfl | rfl | rfl | rfl | rfl <;> simp [hv, rd]
theorem REnd_out (l : List Nd) (i : Int) (h : i < 0 ∨ (l.length : Int) ≤ i) : Ev (fun k => reredosref08_End.f k l i) (0, false) := by
  have hj : ∀ k, reredosref08_End.j0 (k + 1) l i true = some (0, false) := fun k => by rw [reredosref08_End.j0, if_pos rfl]
  refine Ev.step (f := fun k => reredosref08_End.j0 k l i true) (fun k => ?_) (Ev.step (f := fun _ => some (0, false)) hj (Ev.now _))
  rw [reredosref08_End.f]
  by_cases h0 : i < 0
  · rw [if_pos h0]
  · rw [if_neg h0, if_pos (by omega)]
theorem REnd_eq (l : List Nd) (hl : l.length ≤ 1000000) : ∀ (m i : Nat), l.length - i < m → Ev (fun k => reredosref08_End.f k l (i : Int)) (outE i (endW kdT (l.drop i) 1)) := by
  intro m
  induction m with
  | zero => intro i h; omega
  | succ m ih =>
    intro i h
    cases hd : l.drop i with
    | nil =>
      have : l.length ≤ i := by
        have := congrArg List.length hd
        rw [List.length_drop, List.length_nil] at this
        omega
      exact REnd_out l i (.inr (by omega))
    | cons x r =>
      obtain ⟨hr, hlt, hd2⟩ := rd_drop l i x r hd
      have hk := RKids_eq x.f0 x.f1 x.f2 x.f3 x.f4
      have hb := kdB_bounds x.f0 x.f1
      have hk1 : kdT x = kdB x.f0 x.f1 := rfl
      refine Ev.step (f := fun k => (reredosref08_Kids.f k x.f0 x.f1 x.f2 x.f3 x.f4).bind fun t252 => (reredosref08_End.j0 k l (i : Int) (decide (t252 < 0)))) (fun k => ?_) (Ev.bind hk ?_)
      · rw [reredosref08_End.f, if_neg (by omega), if_neg (by omega), if_pos (by omega), if_pos (by omega), hr]
      · by_cases hneg : kdB x.f0 x.f1 < 0
        · rw [decide_eq_true hneg]
          simp only [endW]
          rw [hk1, if_pos hneg]
          exact Ev.step (f := fun _ => some (0, false)) (fun k => by rw [reredosref08_End.j0, if_pos rfl]) (Ev.now _)
        · rw [decide_eq_false hneg]
          simp only [endW]
          rw [hk1, if_neg hneg, Nat.zero_add]
          obtain ⟨c, hc⟩ : ∃ c, (kdB x.f0 x.f1).toNat = c := ⟨_, rfl⟩
          have hkc : kdB x.f0 x.f1 = (c : Int) := by omega
          have loop : ∀ (d j p : Nat), j + d = c → i < p → p ≤ l.length → Ev (fun k => reredosref08_End.l0 k l (i : Int) (p : Int) (j : Int)) (outE p (endW kdT (l.drop p) d)) := by
            intro d
            induction d with
            | zero =>
              intro j p hj hp hpl
              rw [endW_zero]
              refine Ev.step (f := fun k => (reredosref08_Kids.f k x.f0 x.f1 x.f2 x.f3 x.f4).bind fun t254 => (if (j : Int) < t254 then ((reredosref08_End.f k l (p : Int)).bind fun bt255 => (if bt255.2 = true then (reredosref08_End.l0 k l (i : Int) bt255.1 (wrap64 ((j : Int) + 1))) else (some (0, false)))) else (some ((p : Int), true)))) (fun k => ?_) (Ev.bind hk ?_)
              · rw [reredosref08_End.l0, if_pos (by omega), if_pos (by omega), hr]
              · exact Ev.congr (f := fun _ => some ((p : Int), true)) (fun k => by rw [if_neg (by omega)]) (by simp only [outE, Nat.add_zero]; exact Ev.now _)
            | succ d ihd =>
              intro j p hj hp hpl
              have he := ih p (by omega)
              refine Ev.step (f := fun k => (reredosref08_Kids.f k x.f0 x.f1 x.f2 x.f3 x.f4).bind fun t254 => (if (j : Int) < t254 then ((reredosref08_End.f k l (p : Int)).bind fun bt255 => (if bt255.2 = true then (reredosref08_End.l0 k l (i : Int) bt255.1 (wrap64 ((j : Int) + 1))) else (some (0, false)))) else (some ((p : Int), true)))) (fun k => ?_) (Ev.bind hk ?_)
              · rw [reredosref08_End.l0, if_pos (by omega), if_pos (by omega), hr]
              · refine Ev.congr (f := fun k => (reredosref08_End.f k l (p : Int)).bind fun bt255 => (if bt255.2 = true then (reredosref08_End.l0 k l (i : Int) bt255.1 (wrap64 ((j : Int) + 1))) else (some (0, false)))) (fun k => by rw [if_pos (by omega)]) (Ev.bind he ?_)
                rw [show d + 1 = 1 + d by omega, endW_add]
                cases hm : endW kdT (l.drop p) 1 with
                | none =>
                  simp only [outE, Option.bind_none]
                  exact Ev.congr (f := fun _ => some (0, false)) (fun k => by simp) (Ev.now _)
                | some q =>
                  have hle := (endW_le kdT hm).1
                  rw [List.length_drop] at hle
                  simp only [outE, Option.bind_some]
                  have hrec := ihd (j + 1) (p + q) (by omega) (by omega) (by omega)
                  rw [List.drop_drop]
                  have e2 : outE p ((endW kdT (l.drop (p + q)) d).map (q + ·)) = outE (p + q) (endW kdT (l.drop (p + q)) d) := by
                    cases endW kdT (l.drop (p + q)) d with
                    | none => rfl
                    | some z => simp only [outE, Option.map_some]; congr 2; omega
                  have e3 := e2
                  unfold outE at e3
                  unfold outE at hrec
                  rw [e3]
                  exact Ev.congr (fun k => by simp only [if_true]; rw [succ_w' (by omega)]) hrec
          have h0 := loop c 0 (i + 1) (by omega) (by omega) (by omega)
          rw [hd2, ← hc] at h0
          have e2 : outE (i + 1) (endW kdT r (kdB x.f0 x.f1).toNat) = outE i ((endW kdT r (kdB x.f0 x.f1).toNat).map (· + 1)) := by
            cases endW kdT r (kdB x.f0 x.f1).toNat with
            | none => rfl
            | some z => simp only [outE, Option.map_some]; congr 2; omega
          rw [e2] at h0
          exact Ev.step (fun k => by rw [reredosref08_End.j0, if_neg (by decide), succ_w' (by omega)]; rfl) h0
theorem REnd_at (l : List Nd) (hl : l.length ≤ 1000000) (i : Nat) : Ev (fun k => reredosref08_End.f k l (i : Int)) (outE i (endW kdT (l.drop i) 1)) := REnd_eq l hl (l.length - i + 1) i (by omega)
theorem RUnder_at (l : List Nd) (hl : l.length ≤ 1000000) (i : Nat) : Ev (fun k => reredosref08_Under.f k l (i : Int)) ((undL l i).map fun n : Nat => (n : Int)) := by
  refine Ev.congr (fun k => by unfold reredosref08_Under.f; rfl) (Ev.bind (REnd_at l hl i) ?_)
  unfold undL
  cases h : endW kdT (l.drop i) 1 with
  | none =>
    simp only [outE]
    exact Ev.congr (f := fun _ => some []) (fun k => by simp) (Ev.now _)
  | some m =>
    simp only [outE]
    cases hd : l.drop i with
    | nil => rw [hd] at h; cases h
    | cons x r =>
      obtain ⟨hr, hlt, hd2⟩ := rd_drop l i x r hd
      rw [hd] at h
      obtain ⟨k1, k2, k3⟩ := endW_cons kdT h
      have hk := RKids_eq x.f0 x.f1 x.f2 x.f3 x.f4
      have hb := kdB_bounds x.f0 x.f1
      have hk1 : kdT x = kdB x.f0 x.f1 := rfl
      obtain ⟨c, hc⟩ : ∃ c, (kdT x).toNat = c := ⟨_, rfl⟩
      have hkc : kdB x.f0 x.f1 = (c : Int) := by omega
      have loop : ∀ (d j p : Nat) (acc : List Int), j + d = c → acc.length ≤ 3 → acc.length = j → Ev (fun k => reredosref08_Under.l0 k l (i : Int) acc (p : Int) (j : Int)) (acc ++ (undP l d p).map fun n : Nat => (n : Int)) := by
        intro d
        induction d with
        | zero =>
          intro j p acc hj ha ha2
          refine Ev.step (f := fun k => (reredosref08_Kids.f k x.f0 x.f1 x.f2 x.f3 x.f4).bind fun t260 => (if (j : Int) < t260 then (if acc.length < 17592186044416 then ((reredosref08_End.f k l (p : Int)).bind fun bt264 => (reredosref08_Under.l0 k l (i : Int) (acc ++ [(p : Int)]) bt264.1 (wrap64 ((j : Int) + 1)))) else (none)) else (some acc))) (fun k => ?_) (Ev.bind hk ?_)
          · rw [reredosref08_Under.l0, if_pos (by omega), if_pos (by omega), hr]
          · exact Ev.congr (f := fun _ => some acc) (fun k => by rw [if_neg (by omega)]) (by simp only [undP, List.map_nil, List.append_nil]; exact Ev.now _)
        | succ d ihd =>
          intro j p acc hj ha ha2
          refine Ev.step (f := fun k => (reredosref08_Kids.f k x.f0 x.f1 x.f2 x.f3 x.f4).bind fun t260 => (if (j : Int) < t260 then (if acc.length < 17592186044416 then ((reredosref08_End.f k l (p : Int)).bind fun bt264 => (reredosref08_Under.l0 k l (i : Int) (acc ++ [(p : Int)]) bt264.1 (wrap64 ((j : Int) + 1)))) else (none)) else (some acc))) (fun k => ?_) (Ev.bind hk ?_)
          · rw [reredosref08_Under.l0, if_pos (by omega), if_pos (by omega), hr]
          · have hacc : acc.length < 17592186044416 := Nat.lt_of_le_of_lt ha (by decide)
            refine Ev.congr (f := fun k => (reredosref08_End.f k l (p : Int)).bind fun bt264 => (reredosref08_Under.l0 k l (i : Int) (acc ++ [(p : Int)]) bt264.1 (wrap64 ((j : Int) + 1)))) (fun k => by rw [if_pos (by omega), if_pos hacc]) (Ev.bind (REnd_at l hl p) ?_)
            rw [outE_fst]
            have := ihd (j + 1) (match endW kdT (l.drop p) 1 with | none => 0 | some m => p + m) (acc ++ [(p : Int)]) (by omega) (by rw [List.length_append, List.length_singleton]; omega) (by rw [List.length_append, List.length_singleton]; omega)
            simp only [undP, List.map_cons]
            rw [List.append_assoc] at this
            exact Ev.congr (fun k => by rw [succ_w' (by omega)] <;> rfl) this
      have h0 := loop c 0 (i + 1) [] (by omega) (by simp) (by simp)
      rw [List.nil_append] at h0
      dsimp only
      rw [hc]
      exact Ev.congr (fun k => by simp only [if_true]; rw [succ_w' (by omega)]; rfl) h0
theorem RUnder_out (l : List Nd) (i : Int) (h : i < 0 ∨ (l.length : Int) ≤ i) : Ev (fun k => reredosref08_Under.f k l i) [] := by
  refine Ev.congr (fun k => by unfold reredosref08_Under.f; rfl) (Ev.bind (REnd_out l i h) ?_)
  exact Ev.congr (f := fun _ => some []) (fun k => by simp) (Ev.now _)
theorem depL_seg {l : List Nd} {m : Nat} (h : endW kdT l 1 = some m) : depL kdT (l.take m) = depL kdT l := by
  have := depL_append kdT (l.take m) (l.drop m) (endW_seg kdT h)
  rw [List.take_append_drop] at this
  exact this.symm
theorem depL_le (l : List Nd) : depL kdT l ≤ l.length := by
  unfold depL
  cases h : endW kdT l 1 with
  | none => exact Nat.zero_le _
  | some m =>
    have hg : ∀ (l : List Nd) (st : List Nat) (most : Nat), mach kdT l st most ≤ max most (st.length + l.length) := by
      intro l
      induction l with
      | nil => intro st most; simp only [mach]; omega
      | cons x l ih =>
        intro st most
        simp only [mach]
        by_cases h0 : (kdT x).toNat = 0
        · rw [if_pos h0]
          have hdl := dec_len st
          cases hds : dec st with
          | nil => simp only [List.length_cons]; omega
          | cons s st' =>
            simp only []
            have := ih (s :: st') (max most (st.length + 1))
            rw [hds] at hdl
            simp only [List.length_cons] at this hdl ⊢
            omega
        · rw [if_neg h0]
          have := ih ((kdT x).toNat :: st) (max most (st.length + 1))
          simp only [List.length_cons] at this ⊢
          omega
    have := hg l [] 0
    simp only [List.length_nil] at this ⊢
    omega
theorem Rdeep_eq (l : List Nd) (hl : l.length ≤ 1000000) : ∀ (m i q : Nat), l.length - i < m → endW kdT (l.drop i) 1 = some q → Ev (fun k => reredosref08_deep.f k l (i : Int)) ((depL kdT (l.drop i) : Nat) : Int) := by
  intro m
  induction m with
  | zero => intro i q h; omega
  | succ m ih =>
    intro i q h he
    refine Ev.step (fun k => by rw [reredosref08_deep.f]) (Ev.bind (RUnder_at l hl i) ?_)
    cases hd : l.drop i with
    | nil => rw [hd] at he; cases he
    | cons x r =>
      obtain ⟨hr, hlt, hd2⟩ := rd_drop l i x r hd
      have he2 := he
      rw [hd] at he2
      obtain ⟨k1, k2, k3⟩ := endW_cons kdT he2
      have hdc := depL_cons kdT he2
      have hund : undL l i = undP l (kdT x).toNat (i + 1) := by
        unfold undL
        rw [he]
        simp only [hd]
      rw [hund]
      obtain ⟨t, ht⟩ : ∃ t, (undP l (kdT x).toNat (i + 1)).map (fun n : Nat => (n : Int)) = t := ⟨_, rfl⟩
      have hul : ∀ (c p : Nat), (undP l c p).length = c := by
        intro c
        induction c with
        | zero => intro p; rfl
        | succ c ih => intro p; simp only [undP, List.length_cons, ih]
      have htl : t.length = (kdT x).toNat := by rw [← ht, List.length_map, hul]
      have hb := kdB_bounds x.f0 x.f1
      have hk1 : kdT x = kdB x.f0 x.f1 := rfl
      rw [ht]
      have loop : ∀ (c p j most : Nat) (z : Nat), t.length = j + c → t.drop j = (undP l c p).map (fun n : Nat => (n : Int)) → i < p → endW kdT (l.drop p) c = some z → most ≤ l.length → Ev (fun k => reredosref08_deep.l0 k l (most : Int) t (j : Int)) (((if c = 0 then 1 + most else mach kdT (l.drop p) [c] (1 + most)) : Nat) : Int) := by
        intro c
        induction c with
        | zero =>
          intro p j most z hj hdr hp hz hmo
          rw [if_pos rfl]
          refine Ev.step (f := fun _ => some (((1 + most : Nat)) : Int)) (fun k => ?_) (Ev.now _)
          have hw : wrap64 (1 + (most : Int)) = ((1 + most : Nat) : Int) := by rw [wrap_id (by omega) (by omega)]; omega
          rw [reredosref08_deep.l0, if_neg (by omega), hw]
        | succ c ihc =>
          intro p j most z hj hdr hp hz hmo
          obtain ⟨mm, e1, e2, e3, e4, e5⟩ := endW_split kdT hz
          have hjl : j < t.length := by omega
          have hund : undP l (c + 1) p = p :: undP l c (p + mm) := by simp only [undP]; rw [e1]
          rw [hund, List.map_cons, List.drop_eq_getElem_cons hjl] at hdr
          injection hdr with q1 q2
          have hrd : rd t (j : Int) = (p : Int) := by
            unfold rd
            rw [Int.toNat_natCast, List.getD_eq_getElem?_getD, List.getElem?_eq_getElem hjl]
            exact q1
          rw [List.drop_drop] at e2
          rw [List.length_drop] at e5
          have hdeep := ih p mm (by omega) e1
          have hdl := depL_le (l.drop p)
          rw [List.length_drop] at hdl
          have hrec := ihc (p + mm) (j + 1) (max most (depL kdT (l.drop p))) _ (by omega) q2 (by omega) e2 (by omega)
          have hmf := mach_forest kdT c (1 + most) e1
          rw [depL_seg e1, List.drop_drop] at hmf
          have hmx : max (1 + most) (1 + depL kdT (l.drop p)) = 1 + max most (depL kdT (l.drop p)) := by omega
          rw [hmx] at hmf
          rw [if_neg (by omega), hmf]
          refine Ev.step (f := fun k => (reredosref08_deep.f k l (p : Int)).bind fun t270 => (reredosref08_deep.l0 k l (mx (most : Int) t270) t ((j + 1 : Nat) : Int))) (fun k => ?_) (Ev.bind hdeep ?_)
          · rw [reredosref08_deep.l0, if_pos (by omega), if_pos (by omega), hrd, succ_w' (by omega)]
          · rw [mx_nat]
            exact hrec
      have h0 := loop (kdT x).toNat (i + 1) 0 0 (q - 1) (by omega) (by rw [List.drop_zero]; exact ht.symm) (by omega) (by rw [hd2]; exact k3) (by omega)
      rw [hd2] at h0
      rw [hdc]
      exact h0
theorem RDepth_eq (l : List Nd) (hl : l.length ≤ 1000000) : Ev (fun k => reredosref08_Depth.f k l) ((depL kdT l : Nat) : Int) := by
  have e0 : (0 : Int) = ((0 : Nat) : Int) := rfl
  have hE := REnd_at l hl 0
  rw [List.drop_zero, ← e0] at hE
  refine Ev.congr (fun k => by unfold reredosref08_Depth.f; rfl) (Ev.bind hE ?_)
  cases h : endW kdT l 1 with
  | none =>
    have : depL kdT l = 0 := by unfold depL; rw [h]
    rw [this]
    simp only [outE]
    exact Ev.congr (f := fun _ => some 0) (fun k => by simp) (Ev.now _)
  | some m =>
    simp only [outE]
    have := Rdeep_eq l hl (l.length + 1) 0 m (by omega) (by rw [List.drop_zero]; exact h)
    rw [List.drop_zero, ← e0] at this
    exact Ev.congr (fun k => by simp only [if_true]) (Ev.bind this (Ev.now _))
end Go.Proofs.Ytdelccahgchadaa
end
section
namespace Go.Proofs.Ytdelccahgchadaa
open Go.RowKit Go.Lib Go.Proofs.Ytdelccahgchadaa.P Go.Proofs.YtdelccahgchadaaW.PrintWords Go.Proofs.YtdelccahgchadaaW.PrintMore
set_option linter.unusedVariables false
theorem Ev.ite_some {α : Type} {g : Nat → Option α} {r : α} (h : Ev g r) : Ev (fun k => (g k).bind fun t => some t) r := Ev.bind h (Ev.now _)
theorem part_eq (s : ByteArray) (kind : Int) : Ev (fun k => reredosref08_part.f k s kind) (isB s kind) := by
  unfold isB
  by_cases hs : s.size ≤ 256
  · rw [if_pos hs]
    refine Ev.congr (fun k => by unfold reredosref08_part.f; rfl) (Ev.bind (RLex_eq s hs) ?_)
    cases lexL (L s) with
    | inl e =>
      exact Ev.congr (f := fun _ => some false) (fun k => (if_neg (show ¬ ((2 : Int) = 0) by decide))) (Ev.now _)
    | inr ts =>
      cases ts with
      | nil => exact Ev.congr (f := fun _ => some false) (fun k => (if_pos rfl).trans (if_neg (show ¬ (((0 : Nat) : Int) = 1) by decide))) (Ev.now _)
      | cons t ts =>
        cases ts with
        | nil =>
          have e1 : rd_T71 ([t].map encT) 0 = encT t := rfl
          have e2 : (mkB t.text).toList = t.text := by rw [toList_L, L_mk]
          have e3 : s.toList = L s := toList_L s
          refine Ev.congr (f := fun _ => some (t.text == L s && decide ((t.kind : Int) = kind))) (fun k => (if_pos rfl).trans ((if_pos rfl).trans ((if_pos (show (0 : Int) < ((1 : Nat) : Int) by decide)).trans ?_))) (Ev.now _)
          show (if (t.kind : Int) = kind then (some ((mkB t.text).toList == s.toList)) else (some false)) = _
          rw [e2, e3]
          by_cases hk : (t.kind : Int) = kind
          · rw [if_pos hk, decide_eq_true hk, Bool.and_true]
          · rw [if_neg hk, decide_eq_false hk, Bool.and_false]
        | cons u us =>
          exact Ev.congr (f := fun _ => some false) (fun k => (if_pos rfl).trans (if_neg (show ¬ ((((t :: u :: us).map encT).length : Int) = 1) from fun h => by rw [List.length_map, List.length_cons, List.length_cons] at h; omega))) (Ev.now _)
  · rw [if_neg hs]
    refine Ev.congr (fun k => by unfold reredosref08_part.f; rw [RLex_big s (by omega)]) (Ev.congr (f := fun _ => some false) (fun k => by simp) (Ev.now _))
theorem hasA_l0 (s t : ByteArray) (ht : (L t).length ≤ 1000) : ∀ (m i : Nat), (L t).length - i < m → i ≤ (L t).length → Ev (fun k => reredosref08_has.l0 k s t (i : Int)) (noB s || (match L s with | [c] => ((L t).drop i).contains c | _ => false)) := by
  have hl : s.toList = L s := toList_L s
  have hz : t.size = (L t).length := L_size t
  intro m
  induction m with
  | zero => intro i h; omega
  | succ m ih =>
    intro i h hi
    by_cases hlt : i < (L t).length
    · have hx : (t.extract (i : Int).toNat ((i + 1 : Nat) : Int).toNat).toList = [(L t)[i]] := by
        rw [toList_L, L_extract, Int.toNat_natCast, Int.toNat_natCast, Nat.add_sub_cancel_left, List.drop_eq_getElem_cons hlt]
        rfl
      have e : ∀ k, reredosref08_has.l0 (k + 1) s t (i : Int) = if L s = [(L t)[i]] then some true else reredosref08_has.l0 k s t ((i + 1 : Nat) : Int) := by
        intro k
        rw [reredosref08_has.l0, succ_w' (by omega), if_pos (by omega), if_pos (by omega), if_pos (by omega), if_pos (by omega), hx, hl]
      rw [List.drop_eq_getElem_cons hlt]
      by_cases he : L s = [(L t)[i]]
      · have hn : noB s = false := by unfold noB; rw [hl, he]; rfl
        rw [hn, he]
        refine Ev.step (f := fun _ => some true) (fun k => by rw [e, if_pos he]) ?_
        have : (false || ((L t)[i] :: (L t).drop (i + 1)).contains (L t)[i]) = true := by simp
        rw [this]
        exact Ev.now _
      · refine Ev.step (fun k => by rw [e, if_neg he]) ?_
        have := ih (i + 1) (by omega) (by omega)
        have e2 : (match L s with | [c] => ((L t)[i] :: (L t).drop (i + 1)).contains c | _ => false) = (match L s with | [c] => ((L t).drop (i + 1)).contains c | _ => false) := by
          cases h1 : L s with
          | nil => rfl
          | cons c r =>
            cases r with
            | cons d r => rfl
            | nil =>
              rw [h1] at he
              simp only [List.contains_cons]
              have : (c == (L t)[i]) = false := by rw [beq_eq_false_iff_ne]; exact fun h => he (by rw [h])
              rw [this, Bool.false_or]
        rw [e2]
        exact this
    · rw [List.drop_eq_nil_of_le (by omega)]
      refine Ev.step (f := fun _ => some (noB s)) (fun k => ?_) ?_
      · rw [reredosref08_has.l0, if_neg (by omega)]
        rfl
      · have : (noB s || (match L s with | [c] => ([] : Bs).contains c | _ => false)) = noB s := by
          cases L s with
          | nil => simp
          | cons c r => cases r <;> simp
        rw [this]
        exact Ev.now _
theorem hasA_eq (s t : ByteArray) (ht : (L t).length ≤ 1000) : Ev (fun k => reredosref08_has.f k s t) (advB s t) := by
  have := hasA_l0 s t ht ((L t).length + 1) 0 (by omega) (by omega)
  rw [List.drop_zero] at this
  exact Ev.congr (fun k => by unfold reredosref08_has.f; rfl) this
theorem noB_iff (s : ByteArray) : s.toList = ([] : List UInt8) ↔ noB s = true := by unfold noB; rw [beq_iff_eq]
theorem One_l0 (f0 : Int) (v a n : ByteArray) (l : List ByteArray) (hl : l.length ≤ 9223372036854775807) (hb : ∀ s ∈ l, s.size ≤ 9223372036854775807) : ∀ (m i : Nat), l.length - i < m → i ≤ l.length → Ev (fun k => reredosref08_One.l0 k (i : Int) f0 v a n l) (!((l.drop i).any fun s => !mayB (L s)) && (decide (1 ≤ l.length) && (decide (l.length ≤ 100) && (noB v && (noB a && noB n))))) := by
  intro m
  induction m with
  | zero => intro i h; omega
  | succ m ih =>
    intro i h hi
    by_cases hlt : i < l.length
    · have hm := RMay_eq l[i] (by rw [← L_size]; exact hb _ (List.getElem_mem hlt))
      refine Ev.step (f := fun k => (reredosref01_May.f k l[i]).bind fun t310 => (if t310 = true then (reredosref08_One.l0 k ((i + 1 : Nat) : Int) f0 v a n l) else (some false))) (fun k => ?_) (Ev.bind hm ?_)
      · rw [reredosref08_One.l0, if_pos (by omega), if_pos (by omega), rdS_get l i hlt, succ_w' (by omega)]
      · rw [List.drop_eq_getElem_cons hlt, List.any_cons]
        cases mayB (L l[i]) with
        | false => exact Ev.congr (f := fun _ => some false) (fun k => by simp) (by simp only [Bool.not_false, Bool.true_or, Bool.not_true, Bool.false_and]; exact Ev.now _)
        | true =>
          simp only [Bool.not_true, Bool.false_or, if_true]
          exact ih (i + 1) (by omega) (by omega)
    · rw [List.drop_eq_nil_of_le (by omega)]
      refine Ev.step (f := fun _ => some (decide (1 ≤ l.length) && (decide (l.length ≤ 100) && (noB v && (noB a && noB n))))) (fun k => ?_) (by simp only [List.any_nil, Bool.not_false, Bool.true_and]; exact Ev.now _)
      rw [reredosref08_One.l0, if_neg (by omega)]
      by_cases h1 : 1 ≤ l.length
      · rw [if_pos (by omega), decide_eq_true h1]
        by_cases h2 : l.length ≤ 100
        · rw [if_pos (by omega), decide_eq_true h2]
          by_cases h3 : v.toList = ([] : List UInt8)
          · rw [if_pos h3, (noB_iff v).1 h3]
            by_cases h4 : a.toList = ([] : List UInt8)
            · rw [if_pos h4, (noB_iff a).1 h4]; rfl
            · rw [if_neg h4, (by rw [← Bool.not_eq_true]; exact fun h => h4 ((noB_iff a).2 h) : noB a = false)]; rfl
          · rw [if_neg h3, (by rw [← Bool.not_eq_true]; exact fun h => h3 ((noB_iff v).2 h) : noB v = false)]; rfl
        · rw [if_neg (by omega), decide_eq_false h2]; rfl
      · rw [if_neg (by omega), decide_eq_false h1]; rfl
theorem One_j1 (f0 : Int) (v a n : ByteArray) (l : List ByteArray) (of : ByteArray) (hof : (L of).length ≤ 1000) : Ev (fun k => if n.toList = ([] : List UInt8) then (if v.toList = ([123] : List UInt8) then ((reredosref08_has.f k a of).bind fun t311 => (some t311)) else ((reredosref08_part.f k v 4).bind fun t312 => (if t312 = true then ((reredosref08_has.f k a of).bind fun t313 => (some t313)) else ((reredosref08_part.f k v 3).bind fun t314 => (if t314 = true then ((reredosref08_has.f k a of).bind fun t315 => (some t315)) else (some false)))))) else (some false)) (noB n && verbB v && advB a of) := by
  by_cases hn : n.toList = ([] : List UInt8)
  · rw [(noB_iff n).1 hn, Bool.true_and]
    refine Ev.congr (fun k => by rw [if_pos hn]) ?_
    unfold verbB
    by_cases hv : v.toList = ([123] : List UInt8)
    · have : (v.toList == ([123] : List UInt8)) = true := by rw [beq_iff_eq]; exact hv
      rw [this, Bool.true_or, Bool.true_or, Bool.true_and]
      exact Ev.congr (fun k => by rw [if_pos hv]) (Ev.ite_some (hasA_eq a of hof))
    · have : (v.toList == ([123] : List UInt8)) = false := by rw [beq_eq_false_iff_ne]; exact hv
      rw [this, Bool.false_or]
      refine Ev.congr (fun k => by rw [if_neg hv]) (Ev.bind (part_eq v 4) ?_)
      cases isB v 4 with
      | true => rw [Bool.true_or, Bool.true_and]; simp only [if_true]; exact Ev.ite_some (hasA_eq a of hof)
      | false =>
        rw [Bool.false_or]
        refine Ev.congr (fun k => by rw [if_neg (by decide)]) (Ev.bind (part_eq v 3) ?_)
        cases isB v 3 with
        | true => rw [Bool.true_and]; simp only [if_true]; exact Ev.ite_some (hasA_eq a of hof)
        | false => exact Ev.congr (f := fun _ => some false) (fun k => by simp) (by rw [Bool.false_and]; exact Ev.now _)
  · rw [(by rw [← Bool.not_eq_true]; exact fun h => hn ((noB_iff n).2 h) : noB n = false), Bool.false_and, Bool.false_and]
    exact Ev.congr (f := fun _ => some false) (fun k => by rw [if_neg hn]) (Ev.now _)
theorem One_j3 (f0 x : Int) (v a n : ByteArray) (l : List ByteArray) (b : Bool) : Ev (fun k => reredosref08_One.j3 k x b f0 v a n l) (if b = true then isB n 2 else if x = 7 then isB n 3 else if x = 8 then noB n else false) := by
  cases b with
  | true => exact Ev.step (fun k => by rw [reredosref08_One.j3, if_pos rfl]) (Ev.ite_some (part_eq n 2))
  | false =>
    rw [if_neg (by decide)]
    by_cases h7 : x = 7
    · rw [if_pos h7]
      exact Ev.step (fun k => by rw [reredosref08_One.j3, if_neg (by decide), if_pos h7]) (Ev.ite_some (part_eq n 3))
    · rw [if_neg h7]
      by_cases h8 : x = 8
      · rw [if_pos h8]
        exact Ev.step (f := fun _ => some (noB n)) (fun k => by rw [reredosref08_One.j3, if_neg (by decide), if_neg h7, if_pos h8]; rfl) (Ev.now _)
      · rw [if_neg h8]
        exact Ev.step (f := fun _ => some false) (fun k => by rw [reredosref08_One.j3, if_neg (by decide), if_neg h7, if_neg h8]) (Ev.now _)
theorem One_eq (x : Nd) (hl : x.f4.length ≤ 9223372036854775807) (hb : ∀ s ∈ x.f4, s.size ≤ 9223372036854775807) : Ev (fun k => reredosref08_One.f k x.f0 x.f1 x.f2 x.f3 x.f4) (mayN x) := by
  obtain ⟨f0, v, a, n, l⟩ := x
  simp only at hl hb
  unfold mayN
  simp only
  by_cases h1 : f0 = 1
  · rw [if_pos h1]
    have := One_l0 f0 v a n l hl hb (l.length + 1) 0 (by omega) (by omega)
    rw [List.drop_zero] at this
    have e : (noB v && noB a && noB n && !(l.length == 0) && decide (l.length ≤ 100) && !(l.any fun s => !mayB (L s))) = (!(l.any fun s => !mayB (L s)) && (decide (1 ≤ l.length) && (decide (l.length ≤ 100) && (noB v && (noB a && noB n))))) := by
      have : (!(l.length == 0)) = decide (1 ≤ l.length) := by
        cases l with
        | nil => rfl
        | cons y ys => simp
      rw [this]
      cases noB v <;> cases noB a <;> cases noB n <;> cases decide (1 ≤ l.length) <;> cases decide (l.length ≤ 100) <;> cases (l.any fun s => !mayB (L s)) <;> rfl
    rw [e]
    exact Ev.congr (fun k => by unfold reredosref08_One.f; rw [if_pos h1]; rfl) this
  · rw [if_neg h1]
    by_cases hl0 : l.length = 0
    · have hll : (l.length == 0) = true := by rw [beq_iff_eq]; exact hl0
      rw [hll]
      by_cases h3 : f0 = 3
      · rw [if_neg (by omega), if_neg (by omega), if_neg (by omega), if_pos h3, Bool.true_and]
        refine Ev.congr (fun k => by unfold reredosref08_One.f; rw [if_neg h1, if_neg (by omega), if_pos h3]) (Ev.step (fun k => by rw [reredosref08_One.j1, if_pos rfl, if_neg (by omega)]) (One_j1 f0 v a n l (⟨#[39, 47, 92, 96]⟩ : ByteArray) (by decide)))
      · by_cases h4 : f0 = 4
        · rw [if_neg (by omega), if_neg (by omega), if_neg (by omega), if_neg h3, if_pos h4, Bool.true_and]
          have hb4 : (f0 == 4) = true := by rw [beq_iff_eq]; exact h4
          refine Ev.congr (fun k => by unfold reredosref08_One.f; rw [if_neg h1, if_neg (by omega), if_neg h3, hb4]) (Ev.step (fun k => by rw [reredosref08_One.j1, if_pos rfl, if_pos h4]) (One_j1 f0 v a n l (⟨#[39, 46]⟩ : ByteArray) (by decide)))
        · rw [if_neg h3, if_neg h4]
          have hb4 : (f0 == 4) = false := by rw [beq_eq_false_iff_ne]; exact h4
          refine Ev.congr (fun k => by unfold reredosref08_One.f; rw [if_neg h1, if_neg (by omega), if_neg h3, hb4]) ?_
          have hj2 : ∀ b R, (b = true → R = false) → (b = false → R = (if f0 = 2 ∨ f0 = 5 ∨ f0 = 6 then isB n 2 else if f0 = 7 then isB n 3 else if f0 = 8 then noB n else false)) → Ev (fun k => reredosref08_One.j2 k b f0 v a n l) R := by
            intro b R hb1 hb2
            cases b with
            | true => rw [hb1 rfl]; exact Ev.step (f := fun _ => some false) (fun k => by rw [reredosref08_One.j2, if_pos rfl]) (Ev.now _)
            | false =>
              rw [hb2 rfl]
              by_cases h2 : f0 = 2
              · have := One_j3 f0 f0 v a n l (f0 == 2)
                rw [if_pos (by rw [beq_iff_eq]; exact h2)] at this
                rw [if_pos (.inl h2)]
                exact Ev.step (fun k => by rw [reredosref08_One.j2, if_neg (by decide), if_pos h2]) this
              · by_cases h5 : f0 = 5
                · have := One_j3 f0 f0 v a n l (f0 == 5)
                  rw [if_pos (by rw [beq_iff_eq]; exact h5)] at this
                  rw [if_pos (.inr (.inl h5))]
                  exact Ev.step (fun k => by rw [reredosref08_One.j2, if_neg (by decide), if_neg h2, if_pos h5]) this
                · have := One_j3 f0 f0 v a n l (f0 == 6)
                  refine Ev.step (f := fun k => reredosref08_One.j3 k f0 (f0 == 6) f0 v a n l) (fun k => by rw [reredosref08_One.j2, if_neg (by decide), if_neg h2, if_neg h5]) ?_
                  by_cases h6 : f0 = 6
                  · rw [if_pos (by rw [beq_iff_eq]; exact h6)] at this
                    rw [if_pos (.inr (.inr h6))]
                    exact this
                  · rw [if_neg (by rw [beq_iff_eq]; exact h6)] at this
                    rw [if_neg (by omega)]
                    exact this
          have hj1 : Ev (fun k => reredosref08_One.j1 k false f0 v a n l) (noB v && noB a && (if f0 = 2 ∨ f0 = 5 ∨ f0 = 6 then isB n 2 else if f0 = 7 then isB n 3 else if f0 = 8 then noB n else false)) := by
            by_cases hv : v.toList = ([] : List UInt8)
            · rw [(noB_iff v).1 hv, Bool.true_and]
              refine Ev.step (f := fun k => reredosref08_One.j2 k (a.toList != ([] : List UInt8)) f0 v a n l) (fun k => by rw [reredosref08_One.j1, if_neg (by decide), if_pos hv]) (hj2 _ _ (fun h => ?_) (fun h => ?_))
              · have : noB a = false := by
                  unfold noB
                  rw [bne_iff_ne] at h
                  rw [beq_eq_false_iff_ne]; exact h
                rw [this, Bool.false_and]
              · have : noB a = true := by
                  unfold noB
                  rw [bne_eq_false_iff_eq] at h
                  rw [beq_iff_eq]; exact h
                rw [this, Bool.true_and]
            · rw [(by rw [← Bool.not_eq_true]; exact fun h => hv ((noB_iff v).2 h) : noB v = false), Bool.false_and, Bool.false_and]
              exact Ev.step (f := fun k => reredosref08_One.j2 k true f0 v a n l) (fun k => by rw [reredosref08_One.j1, if_neg (by decide), if_neg hv]) (hj2 true false (fun _ => rfl) (fun h => (by cases h)))
          by_cases h256 : f0 = 2 ∨ f0 = 5 ∨ f0 = 6
          · rw [if_pos h256, Bool.and_true]
            rw [if_pos h256] at hj1
            exact hj1
          · rw [if_neg h256] at hj1 ⊢
            by_cases h7 : f0 = 7
            · rw [if_pos h7] at hj1 ⊢
              rw [Bool.and_true]
              exact hj1
            · rw [if_neg h7] at hj1 ⊢
              by_cases h8 : f0 = 8
              · rw [if_pos h8] at hj1 ⊢
                rw [Bool.and_true]
                exact hj1
              · rw [if_neg h8] at hj1 ⊢
                rw [Bool.and_false] at hj1
                exact hj1
    · have hll : (l.length == 0) = false := by rw [beq_eq_false_iff_ne]; exact hl0
      rw [hll]
      have : (if f0 = 2 ∨ f0 = 5 ∨ f0 = 6 then noB v && noB a && false && isB n 2 else if f0 = 7 then noB v && noB a && false && isB n 3 else if f0 = 8 then noB v && noB a && false && noB n else if f0 = 3 then false && noB n && verbB v && advB a ⟨#[39, 47, 92, 96]⟩ else if f0 = 4 then false && noB n && verbB v && advB a ⟨#[39, 46]⟩ else false) = false := by
        simp
      rw [this]
      exact Ev.congr (f := fun _ => some false) (fun k => by unfold reredosref08_One.f; rw [if_neg h1, if_pos (by omega)]) (Ev.now _)
theorem RMay_l0T (l : List Nd) (hl : l.length ≤ 1000000) (hw : ∀ x ∈ l, x.f4.length ≤ 9223372036854775807 ∧ ∀ s ∈ x.f4, s.size ≤ 9223372036854775807) : ∀ (m i : Nat), l.length - i < m → i ≤ l.length → Ev (fun k => reredosref08_May.l0 k l (i : Int)) (allN i (l.drop i)) := by
  intro m
  induction m with
  | zero => intro i h; omega
  | succ m ih =>
    intro i h hi
    by_cases hlt : i < l.length
    · rw [List.drop_eq_getElem_cons hlt]
      have hx := hw _ (List.getElem_mem hlt)
      have ho := One_eq l[i] hx.1 hx.2
      have hrec := ih (i + 1) (by omega) (by omega)
      simp only [allN]
      refine Ev.step (f := fun k => (reredosref08_One.f k l[i].f0 l[i].f1 l[i].f2 l[i].f3 l[i].f4).bind fun t327 => (if t327 = true then (if headB l[i] = true ∧ 0 < i then some false else (reredosref08_May.l0 k l ((i + 1 : Nat) : Int))) else (some false))) (fun k => ?_) (Ev.bind ho ?_)
      · rw [reredosref08_May.l0, if_pos (by omega), if_pos (by omega), rd_get l i hlt, succ_w' (by omega)]
        congr 1
        funext t
        cases t with
        | false => simp
        | true =>
          simp only [if_true]
          by_cases h0 : (i : Int) > 0
          · rw [if_pos h0]
            by_cases h5 : l[i].f0 ≥ 5
            · rw [if_pos h5]
              by_cases h7 : l[i].f0 ≤ 7
              · rw [if_pos h7, if_pos ⟨by unfold headB; exact decide_eq_true (by omega), by omega⟩]
              · rw [if_neg h7, if_neg (fun hh => by have := of_decide_eq_true hh.1; omega)]
            · rw [if_neg h5, if_neg (fun hh => by have := of_decide_eq_true hh.1; omega)]
          · rw [if_neg h0, if_neg (fun hh => by omega)]
      · cases mayN l[i] with
        | false => exact Ev.congr (f := fun _ => some false) (fun k => by simp) (by simp only [Bool.false_and]; exact Ev.now _)
        | true =>
          simp only [if_true, Bool.true_and]
          by_cases hh : headB l[i] = true ∧ 0 < i
          · rw [hh.1, decide_eq_true hh.2]
            exact Ev.congr (f := fun _ => some false) (fun k => by rw [if_pos ⟨rfl, hh.2⟩]) (by simp only [Bool.and_true, Bool.not_true, Bool.false_and]; exact Ev.now _)
          · have : (headB l[i] && decide (0 < i)) = false := by
              rw [← Bool.not_eq_true, Bool.and_eq_true, decide_eq_true_eq]
              exact hh
            rw [this, Bool.not_false, Bool.true_and]
            exact Ev.congr (fun k => by rw [if_neg hh]) hrec
    · rw [List.drop_eq_nil_of_le (by omega)]
      exact Ev.step (f := fun _ => some true) (fun k => by rw [reredosref08_May.l0, if_neg (by omega)]) (Ev.now _)
theorem RMayT_eq (l : List Nd) (hl : l.length ≤ 1000000) (hw : ∀ x ∈ l, x.f4.length ≤ 9223372036854775807 ∧ ∀ s ∈ x.f4, s.size ≤ 9223372036854775807) : Ev (fun k => reredosref08_May.f k l) (mayL l) := by
  have e0 : (0 : Int) = ((0 : Nat) : Int) := rfl
  have hE := REnd_at l hl 0
  rw [List.drop_zero, ← e0] at hE
  have hno : Ev (fun k => reredosref08_May.j0 k l true) false := Ev.step (f := fun _ => some false) (fun k => by rw [reredosref08_May.j0, if_pos rfl]) (Ev.now _)
  refine Ev.congr (fun k => by unfold reredosref08_May.f; rfl) (Ev.bind hE ?_)
  unfold mayL
  cases h : endW kdT l 1 with
  | none =>
    have : (decide ((none : Option Nat) = some l.length) && decide (depL kdT l ≤ 40) && allN 0 l) = false := by simp
    rw [this]
    exact Ev.congr (fun k => if_neg (show ¬ (false = true) by decide)) hno
  | some m =>
    by_cases hm : m = l.length
    · have hd : decide (some m = some l.length) = true := by rw [hm]; exact decide_eq_true rfl
      rw [hd, Bool.true_and]
      have hdeep := Rdeep_eq l hl (l.length + 1) 0 m (by omega) (by rw [List.drop_zero]; exact h)
      rw [List.drop_zero, ← e0] at hdeep
      refine Ev.congr (fun k => (if_pos rfl).trans (if_pos (show ((0 + m : Nat) : Int) = (l.length : Int) by omega))) (Ev.bind hdeep ?_)
      by_cases h40 : depL kdT l ≤ 40
      · rw [decide_eq_true h40, Bool.true_and, decide_eq_false (by omega)]
        have := RMay_l0T l hl hw (l.length + 1) 0 (by omega) (by omega)
        rw [List.drop_zero] at this
        exact Ev.step (fun k => by rw [reredosref08_May.j0, if_neg (by decide)]; rfl) this
      · rw [decide_eq_false h40, Bool.false_and, decide_eq_true (by omega)]
        exact hno
    · have hd : decide (some m = some l.length) = false := decide_eq_false (fun hh => hm (Option.some.inj hh))
      rw [hd, Bool.false_and, Bool.false_and]
      exact Ev.congr (fun k => (if_pos rfl).trans (if_neg (show ¬ ((0 + m : Nat) : Int) = (l.length : Int) by omega))) hno
end Go.Proofs.Ytdelccahgchadaa
end
section
namespace Go.Proofs.Ytdelccahgchadaa.Pure
open Go.RowKit Go.Proofs.Ytdelccahgchadaa Go.Proofs.Ytdelccahgchadaa.P Go.Proofs.YtdelccahgchadaaW.PrintWords Go.Proofs.YtdelccahgchadaaW.PrintMore
set_option linter.unusedVariables false
theorem End_out (l : List Nd) (i : Int) (h : i < 0 ∨ (l.length : Int) ≤ i) (k : Nat) (hk : 1 ≤ k) : tree_End.f k l i = some (0, false) := by
  obtain ⟨k, rfl⟩ : ∃ j, k = j + 1 := ⟨k - 1, by omega⟩
  unfold tree_End.f
  rw [tree_End.l0, if_pos (by decide)]
  by_cases h0 : i < 0
  · rw [if_pos h0]
  · rw [if_neg h0, if_pos (by omega)]
theorem Under_out (l : List Nd) (i : Int) (h : i < 0 ∨ (l.length : Int) ≤ i) (k : Nat) (hk : 1 ≤ k) : tree_Under.f k l i = some [] := by
  unfold tree_Under.f
  rw [End_out l i h k hk]
  rfl
theorem RSameI_l0 (l : List Int) (hl : l.length ≤ 1000000) : ∀ (m i k : Nat), l.length - i < m → m ≤ k → i ≤ l.length → reredosref03_Same.l0 k l l (i : Int) = some true := by
  intro m
  induction m with
  | zero => intro i k h; omega
  | succ m ih =>
    intro i k h hk hi
    obtain ⟨k, rfl⟩ : ∃ j, k = j + 1 := ⟨k - 1, by omega⟩
    by_cases hlt : i < l.length
    · have hrec := ih (i + 1) k (by omega) (by omega) (by omega)
      simp only [reredosref03_Same.l0]
      rw [if_pos (by omega), if_pos (by omega), if_pos (by omega), succ_w' (by omega), hrec]
      simp
    · simp only [reredosref03_Same.l0]
      rw [if_neg (by omega)]
theorem RSameI (l : List Int) (hl : l.length ≤ 1000000) (k : Nat) (hk : l.length + 1 ≤ k) : reredosref03_Same.f k l l = some true := by
  unfold reredosref03_Same.f
  have e0 : (0 : Int) = ((0 : Nat) : Int) := rfl
  rw [e0]
  have := RSameI_l0 l hl (l.length + 1) 0 k (by omega) hk (by omega)
  rw [this]
  simp
theorem TreeTells : reredoslaw08_TreeTells.Pure := by
  intro l i a b c d e hl _ _ _ _ _ hle
  obtain ⟨N, hNe⟩ : ∃ N : Nat, N = maxLen := ⟨_, rfl⟩
  have hN : N ≤ 9223372036854775807 := by rw [hNe]; decide
  rw [← hNe] at hl hle
  have hw : ∀ x ∈ l, x.f4.length ≤ 9223372036854775807 ∧ ∀ s ∈ x.f4, s.size ≤ 9223372036854775807 := fun y hy => ⟨Nat.le_trans (hl.2 y hy).2.2.2.2.1 hN, fun s hs => Nat.le_trans ((hl.2 y hy).2.2.2.2.2 s hs) hN⟩
  obtain ⟨fw, hf, hf80⟩ : ∃ b, (∀ k, 17000 ≤ k → reredosref08_Few.f k l = some b) ∧ (b = true → l.length ≤ 80) := by
    obtain ⟨b, h1, h2⟩ := Few_eq l (Nat.le_trans hl.1 hN) 17000 (by omega)
    exact ⟨b, fun k hk => at_rounds (fun k => reredosref08_Few.mono l k) hk h1, h2⟩
  have hsh : ∀ k, 3000 ≤ k → reredoslaw08_shown.f k = some true := fun k hk => shown08_eq k hk
  cases fw with
  | false =>
    refine ⟨17001, ?_⟩
    unfold reredoslaw08_TreeTells.f
    rw [hsh _ (by omega), hf _ (by omega)]
    simp only [Option.bind_some]
    rw [if_neg (by decide)]
  | true =>
    have h80 := hf80 rfl
    obtain ⟨K1, R1⟩ := RKids_eq a b c d e
    obtain ⟨K2, R2⟩ := RDepth_eq l (by omega)
    obtain ⟨K3, R3⟩ := RMayT_eq l (by omega) hw
    
    obtain ⟨EB, K4, E4, R4⟩ : ∃ (EB : Int × Bool) (K : Nat), (∀ k, K ≤ k → tree_End.f k l i = some EB) ∧ (∀ k, K ≤ k → reredosref08_End.f k l i = some EB) := by
      by_cases hi : i < 0 ∨ (l.length : Int) ≤ i
      · obtain ⟨K, R⟩ := REnd_out l i hi
        exact ⟨(0, false), K + 1, fun k hk => End_out l i hi k (by omega), fun k hk => R k (by omega)⟩
      · obtain ⟨n, rfl⟩ : ∃ n : Nat, i = (n : Int) := ⟨i.toNat, by omega⟩
        obtain ⟨K, R⟩ := REnd_at l (by omega) n
        exact ⟨_, K + 100, fun k hk => End_eq l (by omega) n (by omega) k (by omega), fun k hk => R k (by omega)⟩
    obtain ⟨UB, K5, U5, R5, hu⟩ : ∃ (UB : List Int) (K : Nat), (∀ k, K ≤ k → tree_Under.f k l i = some UB) ∧ (∀ k, K ≤ k → reredosref08_Under.f k l i = some UB) ∧ UB.length ≤ 1000 := by
      by_cases hi : i < 0 ∨ (l.length : Int) ≤ i
      · obtain ⟨K, R⟩ := RUnder_out l i hi
        exact ⟨[], K + 1, fun k hk => Under_out l i hi k (by omega), fun k hk => R k (by omega), by simp⟩
      · obtain ⟨n, rfl⟩ : ∃ n : Nat, i = (n : Int) := ⟨i.toNat, by omega⟩
        obtain ⟨K, R⟩ := RUnder_at l (by omega) n
        refine ⟨_, K + 200, fun k hk => Under_eq l (by omega) n (by omega) k (by omega), fun k hk => R k (by omega), ?_⟩
        rw [List.length_map]
        have hul : ∀ (c p : Nat), (undP l c p).length = c := by
          intro c
          induction c with
          | zero => intro p; rfl
          | succ c ih => intro p; simp only [undP, List.length_cons, ih]
        unfold undL
        split
        · rename_i x r _ _
          rw [hul]
          have := kdB_bounds x.f0 x.f1
          have : kdT x = kdB x.f0 x.f1 := rfl
          omega
        · simp
    obtain ⟨K, hK⟩ : ∃ K : Nat, K1 + K2 + K3 + K4 + K5 + 30000 < K := ⟨K1 + K2 + K3 + K4 + K5 + 30001, by omega⟩
    refine ⟨K, ?_⟩
    have R1' : reredosref08_Kids.f K a b c d e = some _ := R1 K (by omega)
    have R2' : reredosref08_Depth.f K l = some _ := R2 K (by omega)
    have R3' : reredosref08_May.f K l = some _ := R3 K (by omega)
    unfold reredoslaw08_TreeTells.f
    rw [hsh _ (by omega), hf _ (by omega), E4 K (by omega), R4 K (by omega), Kids_eq a b c d e K (by omega), R1', U5 K (by omega), R5 K (by omega)]
    simp only [Option.bind_some]
    rw [RSameI UB (by omega) K (by omega), Depth_eq l (by omega) K (by omega), R2', May_eqL l (by omega) K (by omega), R3']
    simp
end Go.Proofs.Ytdelccahgchadaa.Pure
end
section
namespace Go.Proofs.Ytdelccahgchadaa.treeTells
open Go.ChangeShapes Go.WideShapes Go.ChangeAt Go.RowKit Go.Proofs.YtdelccahgchadaaW.PrintWords Go.Proofs.Ytdelccahgchadaa.P
open Go.ChangeMaps (open_string shut_string)
set_option linter.unusedVariables false
theorem own : ownKnob Try.prog.godebug = none := by kernel_rfl
theorem laidOut : laidOutB Try.prog = true := by kernel_rfl
set_option maxRecDepth 100000 in
theorem lifted (os : Os) (started : os.Started) (H : Type) (enc : TypeId × Value → H) :
    ReturnsInHanded {} Try.checked os 3 .any (Rows.treeTellsSpec.pre6 enc Try.prog Try.f3 Rows.treeTellsRow.domain false) (Rows.treeTellsSpec.post enc Try.prog Try.f3 false true false false) := by
  refine returnsInHanded_of_change_sized (C := Try.checked) own started (by kernel_rfl) Try.func3
    (ChangeSpec.witness6 (enc := enc) (C := Try.checked) false ⟨#[], #[.slice none 0 0, .int .i64 0, .agg #[.int .i64 0, .string ByteArray.empty, .string ByteArray.empty, .string ByteArray.empty, .slice none 0 0]], []⟩ 8 (by kernel_rfl) (by kernel_rfl) (by kernel_rfl) (by kernel_rfl)) ?_
  intro W base args ds gs before hval0 hW hcnd hsz0 _
  have hsz : (DataW.weightsEach Try.prog (Try.f3.params.toList ++ Rows.treeTellsSpec.plain.varTypes Try.prog) (ds ++ gs)).all (· ≤ reachBytes) = true := hsz0
  have hval : ∀ (j : Nat) t v, Try.f3.params[j]? = some t → args[j]? = some v → Value.okWide Try.prog W .any base t v := hval0
  have hW' := hW
  obtain ⟨p, q, hA0, hV, rfl, hfz, hnd⟩ := hW
  have hA : DataW.TrodAll enc Try.prog W 0 (fun _ => true) true Try.f3.params.toList args.toList ds p := hA0
  rw [Try.params3] at hA hval hsz
  obtain ⟨v0, vs0, d0, ds0, p0, q0, hargs, rfl, rfl, h0, r0⟩ := trodAll_cons hA
  obtain ⟨v1, vs1, d1, ds1, p1, q1, rfl, rfl, rfl, h1, r1⟩ := trodAll_cons r0
  obtain ⟨v2, vs2, d2, ds2, p2, q2, rfl, rfl, rfl, h2, r2⟩ := trodAll_cons r1
  obtain ⟨rfl, rfl, rfl⟩ := trodAll_nil r2
  obtain rfl : args = #[v0, v1, v2] := by cases args; simp_all
  obtain ⟨rfl, rfl⟩ := trodVars_none hV
  have k0 := h0
  have lt0 := trod_places h0
  obtain ⟨A0, c0, l0, rfl, hc0, hr0, wf0⟩ := arg_slice Try.underlying22 (opens_slice Try.underlying22 (by kernel_rfl) (opens_iso (fun x : S25 => (x.f0, x.f1, x.f2, x.f3, x.f4)) (fun a => ⟨a.1, a.2.1, a.2.2.1, a.2.2.2.1, a.2.2.2.2⟩) (fun _ => rfl) (opens_struct Try.underlying25 (by kernel_rfl) (opensF_cons (by kernel_rfl) (by kernel_rfl) (opens_int Try.underlying3) (opensF_cons (by kernel_rfl) (by kernel_rfl) (opens_string Try.underlying9) (opensF_cons (by kernel_rfl) (by kernel_rfl) (opens_string Try.underlying9) (opensF_cons (by kernel_rfl) (by kernel_rfl) (opens_string Try.underlying9) (opensF_last (by kernel_rfl) (by kernel_rfl) (opens_slice Try.underlying23 (by kernel_rfl) (opens_string Try.underlying9)))))))))) (hval 0 22 v0 rfl rfl) h0
  obtain ⟨a1, rfl, rfl, rfl, w1⟩ := open_int Try.underlying3 (hval 1 3 v1 rfl rfl) h1
  have k2 := h2
  have lt2 := trod_places h2
  obtain ⟨a2, cs2, rfl, hk2, wf2⟩ := arg_struct Try.underlying25 (opens_iso (fun x : S25 => (x.f0, x.f1, x.f2, x.f3, x.f4)) (fun a => ⟨a.1, a.2.1, a.2.2.1, a.2.2.2.1, a.2.2.2.2⟩) (fun _ => rfl) (opens_struct Try.underlying25 (by kernel_rfl) (opensF_cons (by kernel_rfl) (by kernel_rfl) (opens_int Try.underlying3) (opensF_cons (by kernel_rfl) (by kernel_rfl) (opens_string Try.underlying9) (opensF_cons (by kernel_rfl) (by kernel_rfl) (opens_string Try.underlying9) (opensF_cons (by kernel_rfl) (by kernel_rfl) (opens_string Try.underlying9) (opensF_last (by kernel_rfl) (by kernel_rfl) (opens_slice Try.underlying23 (by kernel_rfl) (opens_string Try.underlying9))))))))) (hval 2 25 v2 rfl rfl) h2
  obtain ⟨A2_4, c2_4, hcs2, hc2_4, hr2_4⟩ := k25_open hk2
  obtain rfl := of_toList hcs2
  clear hA0 hval0 hsz0 hsz
  obtain ⟨k_, hp_⟩ := Pure.TreeTells l0 a1 (a2.f0) (a2.f1) (a2.f2) (a2.f3) (a2.f4) wf0 w1 (wf2.1) (wf2.2.1) (wf2.2.2.1) (wf2.2.2.2.1) (wf2.2.2.2.2)
  refine (reredoslaw08_TreeTells.calls k_ A0 c0 l0 a1 (a2.f0) (a2.f1) (a2.f2) (a2.f3) A2_4 c2_4 (a2.f4) true W hr0 hc0 hr2_4 hc2_4 hp_).mono fun e W' hpost => ?_
  obtain ⟨he, bel0⟩ := hpost
  have bel : Below W.heap.size W W' := by first | exact bel0 | exact bel0.below
  subst he
  exact ⟨_, rfl, _, _, _, [], _, [], hW', trodAll_mk1 (shut_bool Try.underlying4 _), (trodAll_cons_mk (Below.trod laidOut (by kernel_rfl) (of_decide_eq_true (by kernel_rfl)) k0 bel lt0) (trodAll_cons_mk (shut_int Try.underlying3 w1) (trodAll_cons_mk (Below.trod laidOut (by kernel_rfl) (of_decide_eq_true (by kernel_rfl)) k2 bel lt2) trodAll_mk0))), rfl, bel.frame _, fun h => by cases h⟩
theorem over : Rows.treeTellsRow.holds Try.pinned (OpenSpec.ofChange Rows.treeTellsSpec) :=
  OpenClaim.holds_of_wide 3 Try.f3 rfl rfl rfl rfl rfl rfl rfl ⟨rfl, rfl, rfl, rfl, rfl⟩ rfl rfl rfl rfl rfl (by kernel_rfl) Try.func3 (by kernel_rfl)
    (of_decide_eq_true (by kernel_rfl)) (by unfold Func.isWrapper; first | (rw [if_pos (by decide +kernel)]; kernel_rfl) | (rw [if_neg (by decide +kernel)]; exact ⟨rfl, rfl⟩))
    (fun os started H enc _ => lifted os started H enc)
theorem proved : Rows.TreeTellsSaid := over
#print axioms proved
end Go.Proofs.Ytdelccahgchadaa.treeTells
namespace Go.Proofs.Ytdelccahgchadaa
theorem treeTells_holds : Rows.TreeTellsSaid := treeTells.proved
end Go.Proofs.Ytdelccahgchadaa
end
