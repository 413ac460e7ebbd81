/- Trees as lists of nodes, each ahead of what is below it: where they end, and how deep they are, in plain lists. -/
import Derived.Test.YtdelccahgchadaaGNum
namespace Go.Proofs.Ytdelccahgchadaa
open Go.RowKit Go.Proofs.YtdelccahgchadaaW.PrintWords Go.Proofs.YtdelccahgchadaaW.PrintMore
set_option linter.unusedVariables false
section
variable {α : Type} (kd : α → Int)
/-- How many nodes so many trees take; none: they aren't all there. -/
def endW : List α → Nat → Option Nat
  | _, 0 => some 0
  | [], _ + 1 => none
  | x :: l, n + 1 => if kd x < 0 then none else (endW l (n + (kd x).toNat)).map (· + 1)
theorem endW_zero (l : List α) : endW kd l 0 = some 0 := by cases l <;> rfl
theorem endW_le {l : List α} : ∀ {n m : Nat}, endW kd l n = some m → m ≤ l.length ∧ (1 ≤ n → 1 ≤ m) := by
  induction l with
  | nil =>
    intro n m h
    cases n with
    | zero => rw [endW_zero] at h; injection h with h; subst h; exact ⟨Nat.le_refl _, fun h => absurd h (by omega)⟩
    | succ n => cases h
  | cons x l ih =>
    intro n m h
    cases n with
    | zero => rw [endW_zero] at h; injection h with h; subst h; exact ⟨Nat.zero_le _, fun h => absurd h (by omega)⟩
    | succ n =>
      simp only [endW] at h
      split at h
      · cases h
      · obtain ⟨j, hj, rfl⟩ := Option.map_eq_some_iff.1 h
        have := (ih hj).1
        rw [List.length_cons]
        exact ⟨by omega, fun _ => by omega⟩
/-- Trees, and trees behind them. -/
theorem endW_add {l : List α} : ∀ (a b : Nat), endW kd l (a + b) = (endW kd l a).bind fun m => (endW kd (l.drop m) b).map (m + ·) := by
  induction l with
  | nil =>
    intro a b
    cases a with
    | zero => rw [endW_zero, Nat.zero_add]; simp only [Option.bind_some, List.drop_zero]; cases endW kd ([] : List α) b <;> simp
    | succ a => rw [Nat.succ_add]; rfl
  | cons x l ih =>
    intro a b
    cases a with
    | zero => rw [endW_zero, Nat.zero_add]; simp only [Option.bind_some, List.drop_zero]; cases endW kd (x :: l) b <;> simp
    | succ a =>
      rw [show a + 1 + b = (a + b) + 1 by omega]
      simp only [endW]
      by_cases h : kd x < 0
      · rw [if_pos h, if_pos h]; rfl
      · rw [if_neg h, if_neg h, show a + b + (kd x).toNat = (a + (kd x).toNat) + b by omega, ih]
        cases endW kd l (a + (kd x).toNat) with
        | none => rfl
        | some m =>
          simp only [Option.bind_some, Option.map_some, List.drop_succ_cons]
          cases endW kd (l.drop m) b with
          | none => rfl
          | some j => simp; omega
/-- What stands behind plays no part. -/
theorem endW_append {l : List α} : ∀ {n m : Nat} (r : List α), endW kd l n = some m → endW kd (l ++ r) n = some m := by
  induction l with
  | nil =>
    intro n m r h
    cases n with
    | zero => rw [endW_zero] at h ⊢; exact h
    | succ n => cases h
  | cons x l ih =>
    intro n m r h
    cases n with
    | zero => rw [endW_zero] at h ⊢; exact h
    | succ n =>
      rw [List.cons_append]
      simp only [endW] at h ⊢
      split at h
      · cases h
      · rename_i hx
        rw [if_neg hx]
        obtain ⟨j, hj, rfl⟩ := Option.map_eq_some_iff.1 h
        rw [ih r hj]; rfl
/-- Cut off where they end, they are all. -/
theorem endW_take {l : List α} : ∀ {n m : Nat}, endW kd l n = some m → endW kd (l.take m) n = some m := by
  induction l with
  | nil =>
    intro n m h
    rw [List.take_nil]; exact h
  | cons x l ih =>
    intro n m h
    cases n with
    | zero => rw [endW_zero] at h ⊢; exact h
    | succ n =>
      simp only [endW] at h
      split at h
      · cases h
      · rename_i hx
        obtain ⟨j, hj, rfl⟩ := Option.map_eq_some_iff.1 h
        rw [List.take_succ_cons]
        simp only [endW]
        rw [if_neg hx, ih hj]; rfl
/-- Cut off ahead of where they end, they aren't. -/
theorem endW_cut {l : List α} : ∀ {n m j : Nat}, endW kd l n = some m → j < m → endW kd (l.take j) n = none := by
  induction l with
  | nil =>
    intro n m j h hj
    cases n with
    | zero => rw [endW_zero] at h; injection h with h; omega
    | succ n => cases h
  | cons x l ih =>
    intro n m j h hj
    cases n with
    | zero => rw [endW_zero] at h; injection h with h; omega
    | succ n =>
      simp only [endW] at h
      split at h
      · cases h
      · rename_i hx
        obtain ⟨i, hi, rfl⟩ := Option.map_eq_some_iff.1 h
        cases j with
        | zero => rfl
        | succ j =>
          rw [List.take_succ_cons]
          simp only [endW]
          rw [if_neg hx, ih hi (by omega)]; rfl
/-! ### How deep: a stack of how many trees are left below each open node -/
/-- A tree is done: those above it that have none left are done, too. -/
def dec : List Nat → List Nat
  | [] => []
  | c :: st => if c ≤ 1 then dec st else (c - 1) :: st
def mach : List α → List Nat → Nat → Nat
  | [], _, most => most
  | x :: l, st, most =>
    if (kd x).toNat = 0 then (match dec st with | [] => max most (st.length + 1) | s :: st' => mach l (s :: st') (max most (st.length + 1)))
    else mach l ((kd x).toNat :: st) (max most (st.length + 1))
/-- What is left once a tree below st is done. -/
def fin (st : List Nat) (r : List α) (most : Nat) : Nat := match dec st with | [] => most | s :: st' => mach kd r (s :: st') most
theorem mach_cons0 (x : α) (l : List α) (st : List Nat) (most : Nat) (h : (kd x).toNat = 0) : mach kd (x :: l) st most = fin kd st l (max most (st.length + 1)) := by
  simp only [mach, fin]; rw [if_pos h]
theorem mach_consS (x : α) (l : List α) (st : List Nat) (most : Nat) (h : ¬ (kd x).toNat = 0) : mach kd (x :: l) st most = mach kd l ((kd x).toNat :: st) (max most (st.length + 1)) := by
  simp only [mach]; rw [if_neg h]
theorem mach_max : ∀ (l : List α) (st : List Nat) (most : Nat), mach kd l st most = max most (mach kd l st 0) := by
  intro l
  induction l with
  | nil => intro st most; simp [mach]
  | cons x l ih =>
    intro st most
    simp only [mach]
    by_cases h : (kd x).toNat = 0
    · rw [if_pos h, if_pos h]
      cases dec st with
      | nil => simp only []; omega
      | cons s st' => simp only []; rw [ih, ih (s :: st') (max 0 (st.length + 1))]; omega
    · rw [if_neg h, if_neg h, ih, ih ((kd x).toNat :: st) (max 0 (st.length + 1))]; omega
/-- How many trees are still to come, of an open stack. -/
def need : List Nat → Nat
  | [] => 1
  | c :: st => (c - 1) + need st
theorem need_pos (st : List Nat) : 1 ≤ need st := by
  induction st with
  | nil => exact Nat.le_refl _
  | cons c st ih => simp only [need]; omega
theorem dec_need (st : List Nat) (h : ∀ c ∈ st, 1 ≤ c) : (dec st = [] → need st = 1) ∧ (dec st ≠ [] → need (dec st) = need st - 1) ∧ ∀ c ∈ dec st, 1 ≤ c := by
  induction st with
  | nil => exact ⟨fun _ => rfl, fun h => absurd rfl h, fun c hc => by cases hc⟩
  | cons c st ih =>
    have ih := ih fun d hd => h d (List.mem_cons_of_mem _ hd)
    have hc := h c List.mem_cons_self
    have hp := need_pos st
    simp only [dec, need]
    by_cases h1 : c ≤ 1
    · rw [if_pos h1]
      refine ⟨fun h2 => ?_, fun h2 => ?_, ih.2.2⟩
      · have := ih.1 h2; omega
      · have := ih.2.1 h2; omega
    · rw [if_neg h1]
      refine ⟨fun h2 => (by cases h2), fun _ => ?_, ?_⟩
      · simp only [need]; omega
      · intro d hd
        rcases List.mem_cons.1 hd with e | e
        · omega
        · exact h d (List.mem_cons_of_mem _ e)
theorem dec_nil_append (s st : List Nat) (h : dec s = []) : dec (s ++ st) = dec st := by
  induction s with
  | nil => rfl
  | cons c s ih =>
    simp only [List.cons_append, dec] at h ⊢
    by_cases h1 : c ≤ 1
    · rw [if_pos h1] at h ⊢; exact ih h
    · rw [if_neg h1] at h; cases h
theorem dec_cons_append (s st : List Nat) (h : dec s ≠ []) : dec (s ++ st) = dec s ++ st := by
  induction s with
  | nil => exact absurd rfl h
  | cons c s ih =>
    simp only [List.cons_append, dec] at h ⊢
    by_cases h1 : c ≤ 1
    · rw [if_pos h1] at h ⊢; rw [if_pos h1]; exact ih h
    · rw [if_neg h1]; rw [if_neg h1]; rfl
/-- Trees below an open stack: what lies below it waits, and what stands behind plays no part. -/
theorem mach_shift : ∀ (f : List α) (s st : List Nat) (r : List α) (most : Nat), (∀ c ∈ s, 1 ≤ c) → endW kd f (need s) = some f.length →
    mach kd (f ++ r) (s ++ st) most = fin kd st r (max most (st.length + mach kd f s 0)) := by
  intro f
  induction f with
  | nil =>
    intro s st r most hs h
    have := need_pos s
    obtain ⟨n, hn⟩ : ∃ n, need s = n + 1 := ⟨need s - 1, by omega⟩
    rw [hn] at h
    cases h
  | cons x f ih =>
    intro s st r most hs h
    have hp := need_pos s
    obtain ⟨n, hn⟩ : ∃ n, need s = n + 1 := ⟨need s - 1, by omega⟩
    rw [hn] at h
    simp only [endW] at h
    by_cases hx : kd x < 0
    · rw [if_pos hx] at h; cases h
    rw [if_neg hx] at h
    obtain ⟨j, hj, hj2⟩ := Option.map_eq_some_iff.1 h
    rw [List.length_cons] at hj2
    obtain rfl : j = f.length := by omega
    rw [List.cons_append]
    by_cases h0 : (kd x).toNat = 0
    · rw [mach_cons0 kd _ _ _ _ h0, mach_cons0 kd _ _ _ _ h0]
      rw [h0, Nat.add_zero] at hj
      unfold fin
      have hd := dec_need s hs
      by_cases hd0 : dec s = []
      · rw [dec_nil_append s st hd0, hd0]
        have := hd.1 hd0
        obtain rfl : n = 0 := by omega
        rw [endW_zero] at hj
        injection hj with hj
        obtain rfl : f = [] := List.length_eq_zero_iff.1 hj.symm
        rw [List.nil_append, List.length_append]
        simp only []
        have e : max most (s.length + st.length + 1) = max most (st.length + max 0 (s.length + 1)) := by omega
        rw [e]
      · rw [dec_cons_append s st hd0]
        have hn2 := hd.2.1 hd0
        obtain ⟨t, s', hts⟩ : ∃ t s', dec s = t :: s' := by
          cases hds : dec s with
          | nil => exact absurd hds hd0
          | cons t s' => exact ⟨t, s', rfl⟩
        have := ih (dec s) st r (max most ((s ++ st).length + 1)) hd.2.2 (by rw [hn2, hn]; simpa using hj)
        rw [hts] at this ⊢
        simp only [List.cons_append] at this ⊢
        rw [this, List.length_append, mach_max kd f (t :: s') (max 0 (s.length + 1))]
        unfold fin
        have e : max (max most (s.length + st.length + 1)) (st.length + mach kd f (t :: s') 0) = max most (st.length + max (max 0 (s.length + 1)) (mach kd f (t :: s') 0)) := by omega
        rw [e]
    · rw [mach_consS kd _ _ _ _ h0, mach_consS kd _ _ _ _ h0]
      have := ih ((kd x).toNat :: s) st r (max most ((s ++ st).length + 1)) (by
        intro c hc
        rcases List.mem_cons.1 hc with e | e
        · omega
        · exact hs c e) (by
        simp only [need]
        rw [hn, show (kd x).toNat - 1 + (n + 1) = n + (kd x).toNat by omega]
        exact hj)
      rw [List.cons_append] at this
      rw [this, List.length_append, mach_max kd f ((kd x).toNat :: s) (max 0 (s.length + 1))]
      have e : max (max most (s.length + st.length + 1)) (st.length + mach kd f ((kd x).toNat :: s) 0) = max most (st.length + max (max 0 (s.length + 1)) (mach kd f ((kd x).toNat :: s) 0)) := by omega
      rw [e]
/-- How deep the tree at a list's head is. -/
def depL (l : List α) : Nat := match endW kd l 1 with | none => 0 | some _ => mach kd l [] 0
theorem depL_append (l r : List α) (h : endW kd l 1 = some l.length) : depL kd (l ++ r) = depL kd l := by
  unfold depL
  rw [endW_append kd r h, h]
  have := mach_shift kd l [] [] r 0 (fun c hc => by cases hc) h
  rw [List.append_nil] at this
  rw [this]
  simp [fin, dec]
end
end Go.Proofs.Ytdelccahgchadaa
