/- The law TreeCut: its row, proved; all that it rests on stands in the texts ahead of it. No conditions. -/
import Derived.Test.YtdelccahgchadaaKTreeCut3
import Derived.Lib.IndexBytes
import Derived.Test.YtdelccahgchadaaRows
set_option linter.unusedVariables false
set_option linter.unusedSimpArgs false
section
namespace Go.Proofs.Ytdelccahgchadaa
open Go.RowKit Go.Proofs.YtdelccahgchadaaW.PrintWords Go.Proofs.YtdelccahgchadaaW.PrintMore
set_option linter.unusedVariables false
section
variable {α : Type} (kd : α → Int)
def endW : List α → Nat → Option Nat
  | _, 0 => some 0
  | [], _ + 1 => none
  | x :: l, n + 1 => if kd x < 0 then none else (endW l (n + (kd x).toNat)).map (· + 1)
theorem endW_zero (l : List α) : endW kd l 0 = some 0 := by cases l <;> rfl
theorem endW_le {l : List α} : ∀ {n m : Nat}, endW kd l n = some m → m ≤ l.length ∧ (1 ≤ n → 1 ≤ m) := by
  induction l with
  | nil =>
    intro n m h
    cases n with
    | zero => rw [endW_zero] at h; injection h with h; subst h; exact ⟨Nat.le_refl _, fun h => absurd h (by omega)⟩
    | succ n => cases h
  | cons x l ih =>
    intro n m h
    cases n with
    | zero => rw [endW_zero] at h; injection h with h; subst h; exact ⟨Nat.zero_le _, fun h => absurd h (by omega)⟩
    | succ n =>
      simp only [endW] at h
      split at h
      · cases h
      · obtain ⟨j, hj, rfl⟩ := Option.map_eq_some_iff.1 h
        have := (ih hj).1
        rw [List.length_cons]
        exact ⟨by omega, fun _ => by omega⟩
theorem endW_append {l : List α} : ∀ {n m : Nat} (r : List α), endW kd l n = some m → endW kd (l ++ r) n = some m := by
  induction l with
  | nil =>
    intro n m r h
    cases n with
    | zero => rw [endW_zero] at h ⊢; exact h
    | succ n => cases h
  | cons x l ih =>
    intro n m r h
    cases n with
    | zero => rw [endW_zero] at h ⊢; exact h
    | succ n =>
      rw [List.cons_append]
      simp only [endW] at h ⊢
      split at h
      · cases h
      · rename_i hx
        rw [if_neg hx]
        obtain ⟨j, hj, rfl⟩ := Option.map_eq_some_iff.1 h
        rw [ih r hj]; rfl
theorem endW_cut {l : List α} : ∀ {n m j : Nat}, endW kd l n = some m → j < m → endW kd (l.take j) n = none := by
  induction l with
  | nil =>
    intro n m j h hj
    cases n with
    | zero => rw [endW_zero] at h; injection h with h; omega
    | succ n => cases h
  | cons x l ih =>
    intro n m j h hj
    cases n with
    | zero => rw [endW_zero] at h; injection h with h; omega
    | succ n =>
      simp only [endW] at h
      split at h
      · cases h
      · rename_i hx
        obtain ⟨i, hi, rfl⟩ := Option.map_eq_some_iff.1 h
        cases j with
        | zero => rfl
        | succ j =>
          rw [List.take_succ_cons]
          simp only [endW]
          rw [if_neg hx, ih hi (by omega)]; rfl
def dec : List Nat → List Nat
  | [] => []
  | c :: st => if c ≤ 1 then dec st else (c - 1) :: st
def mach : List α → List Nat → Nat → Nat
  | [], _, most => most
  | x :: l, st, most =>
    if (kd x).toNat = 0 then (match dec st with | [] => max most (st.length + 1) | s :: st' => mach l (s :: st') (max most (st.length + 1)))
    else mach l ((kd x).toNat :: st) (max most (st.length + 1))
def fin (st : List Nat) (r : List α) (most : Nat) : Nat := match dec st with | [] => most | s :: st' => mach kd r (s :: st') most
theorem mach_cons0 (x : α) (l : List α) (st : List Nat) (most : Nat) (h : (kd x).toNat = 0) : mach kd (x :: l) st most = fin kd st l (max most (st.length + 1)) := by
  simp only [mach, fin]; rw [if_pos h]
theorem mach_consS (x : α) (l : List α) (st : List Nat) (most : Nat) (h : ¬ (kd x).toNat = 0) : mach kd (x :: l) st most = mach kd l ((kd x).toNat :: st) (max most (st.length + 1)) := by
  simp only [mach]; rw [if_neg h]
theorem mach_max : ∀ (l : List α) (st : List Nat) (most : Nat), mach kd l st most = max most (mach kd l st 0) := by
  intro l
  induction l with
  | nil => intro st most; simp [mach]
  | cons x l ih =>
    intro st most
    simp only [mach]
    by_cases h : (kd x).toNat = 0
    · rw [if_pos h, if_pos h]
      cases dec st with
      | nil => simp only []; omega
      | cons s st' => simp only []; rw [ih, ih (s :: st') (max 0 (st.length + 1))]; omega
    · rw [if_neg h, if_neg h, ih, ih ((kd x).toNat :: st) (max 0 (st.length + 1))]; omega
def need : List Nat → Nat
  | [] => 1
  | c :: st => (c - 1) + need st
theorem need_pos (st : List Nat) : 1 ≤ need st := by
  induction st with
  | nil => exact Nat.le_refl _
  | cons c st ih => simp only [need]; omega
theorem dec_need (st : List Nat) (h : ∀ c ∈ st, 1 ≤ c) : (dec st = [] → need st = 1) ∧ (dec st ≠ [] → need (dec st) = need st - 1) ∧ ∀ c ∈ dec st, 1 ≤ c := by
  induction st with
  | nil => exact ⟨fun _ => rfl, fun h => absurd rfl h, fun c hc => by cases hc⟩
  | cons c st ih =>
    have ih := ih fun d hd => h d (List.mem_cons_of_mem _ hd)
    have hc := h c List.mem_cons_self
    have hp := need_pos st
    simp only [dec, need]
    by_cases h1 : c ≤ 1
    · rw [if_pos h1]
      refine ⟨fun h2 => ?_, fun h2 => ?_, ih.2.2⟩
      · have := ih.1 h2; omega
      · have := ih.2.1 h2; omega
    · rw [if_neg h1]
      refine ⟨fun h2 => (by cases h2), fun _ => ?_, ?_⟩
      · simp only [need]; omega
      · intro d hd
        rcases List.mem_cons.1 hd with e | e
        · omega
        · exact h d (List.mem_cons_of_mem _ e)
theorem dec_nil_append (s st : List Nat) (h : dec s = []) : dec (s ++ st) = dec st := by
  induction s with
  | nil => rfl
  | cons c s ih =>
    simp only [List.cons_append, dec] at h ⊢
    by_cases h1 : c ≤ 1
    · rw [if_pos h1] at h ⊢; exact ih h
    · rw [if_neg h1] at h; cases h
theorem dec_cons_append (s st : List Nat) (h : dec s ≠ []) : dec (s ++ st) = dec s ++ st := by
  induction s with
  | nil => exact absurd rfl h
  | cons c s ih =>
    simp only [List.cons_append, dec] at h ⊢
    by_cases h1 : c ≤ 1
    · rw [if_pos h1] at h ⊢; rw [if_pos h1]; exact ih h
    · rw [if_neg h1]; rw [if_neg h1]; rfl
theorem mach_shift : ∀ (f : List α) (s st : List Nat) (r : List α) (most : Nat), (∀ c ∈ s, 1 ≤ c) → endW kd f (need s) = some f.length →
    mach kd (f ++ r) (s ++ st) most = fin kd st r (max most (st.length + mach kd f s 0)) := by
  intro f
  induction f with
  | nil =>
    intro s st r most hs h
    have := need_pos s
    obtain ⟨n, hn⟩ : ∃ n, need s = n + 1 := ⟨need s - 1, by omega⟩
    rw [hn] at h
    cases h
  | cons x f ih =>
    intro s st r most hs h
    have hp := need_pos s
    obtain ⟨n, hn⟩ : ∃ n, need s = n + 1 := ⟨need s - 1, by omega⟩
    rw [hn] at h
    simp only [endW] at h
    by_cases hx : kd x < 0
    · rw [if_pos hx] at h; cases h
    rw [if_neg hx] at h
    obtain ⟨j, hj, hj2⟩ := Option.map_eq_some_iff.1 h
    rw [List.length_cons] at hj2
    obtain rfl : j = f.length := by omega
    rw [List.cons_append]
    by_cases h0 : (kd x).toNat = 0
    · rw [mach_cons0 kd _ _ _ _ h0, mach_cons0 kd _ _ _ _ h0]
      rw [h0, Nat.add_zero] at hj
      unfold fin
      have hd := dec_need s hs
      by_cases hd0 : dec s = []
      · rw [dec_nil_append s st hd0, hd0]
        have := hd.1 hd0
        obtain rfl : n = 0 := by omega
        rw [endW_zero] at hj
        injection hj with hj
        obtain rfl : f = [] := List.length_eq_zero_iff.1 hj.symm
        rw [List.nil_append, List.length_append]
        simp only []
        have e : max most (s.length + st.length + 1) = max most (st.length + max 0 (s.length + 1)) := by omega
        rw [e]
      · rw [dec_cons_append s st hd0]
        have hn2 := hd.2.1 hd0
        obtain ⟨t, s', hts⟩ : ∃ t s', dec s = t :: s' := by
          cases hds : dec s with
          | nil => exact absurd hds hd0
          | cons t s' => exact ⟨t, s', rfl⟩
        have := ih (dec s) st r (max most ((s ++ st).length + 1)) hd.2.2 (by rw [hn2, hn]; simpa using hj)
        rw [hts] at this ⊢
        simp only [List.cons_append] at this ⊢
        rw [this, List.length_append, mach_max kd f (t :: s') (max 0 (s.length + 1))]
        unfold fin
        have e : max (max most (s.length + st.length + 1)) (st.length + mach kd f (t :: s') 0) = max most (st.length + max (max 0 (s.length + 1)) (mach kd f (t :: s') 0)) := by omega
        rw [e]
    · rw [mach_consS kd _ _ _ _ h0, mach_consS kd _ _ _ _ h0]
      have := ih ((kd x).toNat :: s) st r (max most ((s ++ st).length + 1)) (by
        intro c hc
        rcases List.mem_cons.1 hc with e | e
        · omega
        · exact hs c e) (by
        simp only [need]
        rw [hn, show (kd x).toNat - 1 + (n + 1) = n + (kd x).toNat by omega]
        exact hj)
      rw [List.cons_append] at this
      rw [this, List.length_append, mach_max kd f ((kd x).toNat :: s) (max 0 (s.length + 1))]
      have e : max (max most (s.length + st.length + 1)) (st.length + mach kd f ((kd x).toNat :: s) 0) = max most (st.length + max (max 0 (s.length + 1)) (mach kd f ((kd x).toNat :: s) 0)) := by omega
      rw [e]
def depL (l : List α) : Nat := match endW kd l 1 with | none => 0 | some _ => mach kd l [] 0
theorem depL_append (l r : List α) (h : endW kd l 1 = some l.length) : depL kd (l ++ r) = depL kd l := by
  unfold depL
  rw [endW_append kd r h, h]
  have := mach_shift kd l [] [] r 0 (fun c hc => by cases hc) h
  rw [List.append_nil] at this
  rw [this]
  simp [fin, dec]
end
end Go.Proofs.Ytdelccahgchadaa
end
section
namespace Go.Proofs.Ytdelccahgchadaa
open Go.RowKit Go.Lib Go.Proofs.Ytdelccahgchadaa.P Go.Proofs.YtdelccahgchadaaW.PrintWords Go.Proofs.YtdelccahgchadaaW.PrintMore
set_option linter.unusedVariables false
abbrev Nd := S25
def kdB (f0 : Int) (v : ByteArray) : Int :=
  let b : Int := if v.toList = ([123] : List UInt8) then 1 else 0
  if f0 = 1 ∨ f0 = 2 then 0 else if f0 = 3 then 1 + b else if f0 = 4 then 2 + b else if f0 = 5 ∨ f0 = 7 then 1 else if f0 = 6 ∨ f0 = 8 then 2 else -1
def kdT (x : Nd) : Int := kdB x.f0 x.f1
theorem kdB_bounds (f0 : Int) (v : ByteArray) : -1 ≤ kdB f0 v ∧ kdB f0 v ≤ 3 := by
  unfold kdB
  simp only []
  split <;> (try split) <;> (try split) <;> (try split) <;> (try split) <;> (try split) <;> omega
theorem Kids_eq (f0 : Int) (v a n : ByteArray) (l : List ByteArray) (k : Nat) (hk : 3 ≤ k) : tree_Kids.f k f0 v a n l = some (kdB f0 v) := by
  obtain ⟨k, rfl⟩ : ∃ j, k = j + 3 := ⟨k - 3, by omega⟩
  have h0 : ∀ b : Int, b = 0 ∨ b = 1 → tree_Kids.j0 (k + 3) b f0 v a n l = some (if f0 = 1 ∨ f0 = 2 then 0 else if f0 = 3 then 1 + b else if f0 = 4 then 2 + b else if f0 = 5 ∨ f0 = 7 then 1 else if f0 = 6 ∨ f0 = 8 then 2 else -1) := by
    intro b hb
    have w1 : wrap64 (1 + b) = 1 + b := wrap_id (by omega) (by omega)
    have w2 : wrap64 (2 + b) = 2 + b := wrap_id (by omega) (by omega)
    simp only [tree_Kids.j0, tree_Kids.j1, tree_Kids.j2, w1, w2]
    by_cases h1 : f0 = 1
    · subst h1; simp
    by_cases h2 : f0 = 2
    · subst h2; simp
    by_cases h3 : f0 = 3
    · subst h3; simp
    by_cases h4 : f0 = 4
    · subst h4; simp
    by_cases h5 : f0 = 5
    · subst h5; simp
    by_cases h6 : f0 = 6
    · subst h6; simp
    by_cases h7 : f0 = 7
    · subst h7; simp
    by_cases h8 : f0 = 8
    · subst h8; simp
    simp [h1, h2, h3, h4, h5, h6, h7, h8]
  unfold tree_Kids.f kdB
  by_cases hv : v.toList = ([123] : List UInt8)
  · rw [if_pos hv, if_pos hv]; exact h0 1 (.inr rfl)
  · rw [if_neg hv, if_neg hv]; exact h0 0 (.inl rfl)
theorem rd_drop (l : List Nd) (i : Nat) (x : Nd) (r : List Nd) (h : l.drop i = x :: r) : rd_T25 l (i : Int) = x ∧ i < l.length ∧ l.drop (i + 1) = r := by
  have hi : i < l.length := by
    have := congrArg List.length h
    rw [List.length_drop, List.length_cons] at this
    omega
  have hd := List.drop_eq_getElem_cons hi
  rw [h] at hd
  injection hd with h1 h2
  refine ⟨?_, hi, h2.symm⟩
  unfold rd_T25
  rw [Int.toNat_natCast, List.getD_eq_getElem?_getD, List.getElem?_eq_getElem hi]
  exact h1.symm
def outE (i : Nat) : Option Nat → Int × Bool
  | none => (0, false)
  | some m => (((i + m : Nat) : Int), true)
theorem End_l0 (l0 : List Nd) (hl : l0.length ≤ 1000000) : ∀ (l : List Nd) (i n k : Nat), l0.drop i = l → n ≤ 3 * i + 1 → i ≤ l0.length → l.length + 5 ≤ k →
    tree_End.l0 k l0 (i : Int) (n : Int) = some (outE i (endW kdT l n)) := by
  intro l
  induction l with
  | nil =>
    intro i n k hd hn hi hk
    obtain ⟨k, rfl⟩ : ∃ j, k = j + 1 := ⟨k - 1, by rw [List.length_nil] at hk; omega⟩
    simp only [tree_End.l0]
    cases n with
    | zero => rw [if_neg (by omega), endW_zero]; rfl
    | succ n =>
      have : l0.length ≤ i := by
        have := congrArg List.length hd
        rw [List.length_drop, List.length_nil] at this
        omega
      rw [if_pos (by omega), if_neg (by omega), if_pos (by omega)]
      rfl
  | cons x l ih =>
    intro i n k hd hn hi hk
    rw [List.length_cons] at hk
    obtain ⟨k, rfl⟩ : ∃ j, k = j + 1 := ⟨k - 1, by omega⟩
    obtain ⟨hr, hlt, hd2⟩ := rd_drop l0 i x l hd
    simp only [tree_End.l0]
    cases n with
    | zero => rw [if_neg (by omega), endW_zero]; rfl
    | succ n =>
      rw [if_pos (by omega), if_neg (by omega), if_neg (by omega), if_pos (by omega), if_pos (by omega), hr, Kids_eq _ _ _ _ _ k (by omega)]
      simp only [Option.bind_some, endW]
      have hb := kdB_bounds x.f0 x.f1
      have hk1 : kdT x = kdB x.f0 x.f1 := rfl
      by_cases h : kdB x.f0 x.f1 < 0
      · rw [if_pos h, hk1, if_pos h]; rfl
      · rw [if_neg h, hk1, if_neg h]
        have w1 : wrap64 ((i : Int) + 1) = ((i + 1 : Nat) : Int) := by rw [wrap_id (by omega) (by omega)]; omega
        have w2 : wrap64 (((n + 1 : Nat) : Int) + kdB x.f0 x.f1) = ((n + 1 : Nat) : Int) + kdB x.f0 x.f1 := wrap_id (by omega) (by omega)
        have w3 : wrap64 (((n + 1 : Nat) : Int) + kdB x.f0 x.f1 - 1) = ((n + (kdB x.f0 x.f1).toNat : Nat) : Int) := by rw [wrap_id (by omega) (by omega)]; omega
        rw [w1, w2, w3]
        clear w1 w2 w3
        rw [ih (i + 1) (n + (kdB x.f0 x.f1).toNat) k hd2 (by omega) (by omega) (by omega)]
        cases endW kdT l (n + (kdB x.f0 x.f1).toNat) with
        | none => rfl
        | some m => simp only [outE, Option.map_some]; congr 2; omega
theorem End_eq (l0 : List Nd) (hl : l0.length ≤ 1000000) (i : Nat) (hi : i ≤ l0.length) (k : Nat) (hk : l0.length + 5 ≤ k) : tree_End.f k l0 (i : Int) = some (outE i (endW kdT (l0.drop i) 1)) := by
  unfold tree_End.f
  exact End_l0 l0 hl (l0.drop i) i 1 k rfl (by omega) hi (by rw [List.length_drop]; omega)
def encS : List Nat → List Int
  | [] => []
  | c :: st => encS st ++ [(c : Int)]
theorem encS_len (st : List Nat) : (encS st).length = st.length := by
  induction st with
  | nil => rfl
  | cons c st ih => simp [encS, ih]
theorem rd_last (l : List Int) (c : Int) : rd (l ++ [c]) (l.length : Int) = c := by
  simp [rd]
theorem mx_nat (a b : Nat) : mx (a : Int) (b : Int) = ((max a b : Nat) : Int) := by
  unfold mx
  split <;> omega
theorem dec_len (st : List Nat) : (dec st).length ≤ st.length := by
  induction st with
  | nil => exact Nat.le_refl _
  | cons c st ih => simp only [dec]; split <;> simp only [List.length_cons] <;> omega
theorem dec_le3 (st : List Nat) (h : ∀ c ∈ st, 1 ≤ c ∧ c ≤ 3) : ∀ c ∈ dec st, 1 ≤ c ∧ c ≤ 3 := by
  induction st with
  | nil => intro c hc; cases hc
  | cons c st ih =>
    have hc := h c List.mem_cons_self
    simp only [dec]
    split
    · exact ih fun d hd => h d (List.mem_cons_of_mem _ hd)
    · intro d hd
      rcases List.mem_cons.1 hd with e | e
      · omega
      · exact h d (List.mem_cons_of_mem _ e)
theorem Depth_open (l0 : List Nd) (i most c : Nat) (st : List Nat) (k : Nat) (hc : 1 ≤ c) (hl : st.length ≤ 1000000) :
    tree_Depth.l1 (k + 2) (most : Int) (encS (c :: st)) l0 (l0.length : Int) (i : Int) = tree_Depth.l0 k (most : Int) (encS (c :: st)) l0 (l0.length : Int) (wrap64 ((i : Int) + 1)) := by
  have len2 : (encS (c :: st)).length = st.length + 1 := by rw [encS_len]; rfl
  have hw2 : wrap64 (((st.length + 1 : Nat) : Int) - 1) = (st.length : Int) := by rw [wrap_id (by omega) (by omega)]; omega
  have hr2 : rd (encS (c :: st)) (st.length : Int) = (c : Int) := by
    have := rd_last (encS st) (c : Int)
    rw [encS_len] at this
    exact this
  simp only [tree_Depth.l1, tree_Depth.j2, len2, hw2, hr2]
  clear hw2
  have hb : ((c : Int) == 0) = false := by simp; omega
  rw [if_pos (by omega), if_pos (by omega), if_pos (by omega), hb, if_neg (by decide), if_neg (by omega)]
theorem Depth_done (l0 : List Nd) (i most : Nat) : ∀ (st : List Nat) (k : Nat), (∀ c ∈ st, 1 ≤ c ∧ c ≤ 3) → st.length ≤ 1000000 → 2 * st.length + 4 ≤ k →
    ∃ k', k ≤ k' + 2 * (st.length + 1 - (dec st).length) + 2 ∧ tree_Depth.l1 k (most : Int) (encS (0 :: st)) l0 (l0.length : Int) (i : Int) = (match dec st with | [] => some (most : Int) | s :: st' => tree_Depth.l0 k' (most : Int) (encS (s :: st')) l0 (l0.length : Int) (wrap64 ((i : Int) + 1))) := by
  intro st
  induction st with
  | nil =>
    intro k _ _ hk
    obtain ⟨k, rfl⟩ : ∃ j, k = j + 4 := ⟨k - 4, by omega⟩
    refine ⟨k, by simp only [dec, List.length_nil]; omega, ?_⟩
    simp [tree_Depth.l1, tree_Depth.j2, encS, dec, rd, wrap64]
  | cons c st ih =>
    intro k hs hl hk
    rw [List.length_cons] at hl hk
    obtain ⟨k, rfl⟩ : ∃ j, k = j + 2 := ⟨k - 2, by omega⟩
    have hc := hs c List.mem_cons_self
    have e1 : encS (0 :: c :: st) = encS (c :: st) ++ [(0 : Int)] := rfl
    have len1 : (encS (0 :: c :: st)).length = st.length + 2 := by rw [encS_len]; rfl
    have hw : wrap64 (((st.length + 2 : Nat) : Int) - 1) = ((st.length + 1 : Nat) : Int) := by rw [wrap_id (by omega) (by omega)]; omega
    have hr : rd (encS (0 :: c :: st)) ((st.length + 1 : Nat) : Int) = 0 := by
      have := rd_last (encS (c :: st)) 0
      rw [encS_len, List.length_cons] at this
      exact this
    have ht : (encS (0 :: c :: st)).take (((st.length + 1 : Nat) : Int)).toNat = encS (c :: st) := by
      rw [Int.toNat_natCast, e1, List.take_append_of_le_length (by rw [encS_len, List.length_cons]; omega), List.take_of_length_le (by rw [encS_len, List.length_cons]; omega)]
    have len2 : (encS (c :: st)).length = st.length + 1 := by rw [encS_len]; rfl
    have hw2 : wrap64 (((st.length + 1 : Nat) : Int) - 1) = (st.length : Int) := by rw [wrap_id (by omega) (by omega)]; omega
    have hr2 : rd (encS (c :: st)) (st.length : Int) = (c : Int) := by
      have := rd_last (encS st) (c : Int)
      rw [encS_len] at this
      exact this
    have hw3 : wrap64 ((c : Int) - 1) = ((c - 1 : Nat) : Int) := by rw [wrap_id (by omega) (by omega)]; omega
    have hset : (encS (c :: st)).set ((st.length : Int)).toNat ((c - 1 : Nat) : Int) = encS ((c - 1) :: st) := by
      rw [Int.toNat_natCast]
      simp only [encS]
      rw [List.set_append_right _ _ (by rw [encS_len]; omega), encS_len, Nat.sub_self]
      rfl
    have step : tree_Depth.l1 (k + 2) (most : Int) (encS (0 :: c :: st)) l0 (l0.length : Int) (i : Int) = tree_Depth.l1 k (most : Int) (encS ((c - 1) :: st)) l0 (l0.length : Int) (i : Int) := by
      rw [tree_Depth.l1, len1, hw, hr, tree_Depth.j2, len1, hw, ht]
      simp only [Option.bind_some]
      rw [len2, hw2, hr2, hw3, hset]
      clear hw hw2 hw3
      rw [if_pos (by omega), if_pos (by omega), if_pos (by omega), if_pos (by rfl), if_pos (by omega), if_pos (by omega), if_pos (by omega), if_pos (by omega), if_pos (by omega)]
    rw [step]
    clear hw hw2 hw3
    simp only [dec]
    by_cases h1 : c ≤ 1
    · rw [if_pos h1]
      have e : c - 1 = 0 := by omega
      rw [e]
      obtain ⟨k', hk', he⟩ := ih k (fun d hd => hs d (List.mem_cons_of_mem _ hd)) (by omega) (by omega)
      have hdl := dec_len st
      exact ⟨k', by rw [List.length_cons]; omega, he⟩
    · rw [if_neg h1]
      obtain ⟨k, rfl⟩ : ∃ j, k = j + 2 := ⟨k - 2, by omega⟩
      exact ⟨k, by simp only [List.length_cons]; omega, Depth_open l0 i most (c - 1) st k (by omega) (by omega)⟩
theorem Depth_l0 (l0 : List Nd) (hl : l0.length ≤ 1000000) : ∀ (l : List Nd) (i most k : Nat) (st : List Nat), l0.drop i = l → i ≤ l0.length → (∀ c ∈ st, 1 ≤ c ∧ c ≤ 3) → st.length ≤ i → (endW kdT l (need st)).isSome = true → 5 * l.length + 2 * st.length + 8 ≤ k →
    tree_Depth.l0 k (most : Int) (encS st) l0 (l0.length : Int) (i : Int) = some ((mach kdT l st most : Nat) : Int) := by
  intro l
  induction l with
  | nil =>
    intro i most k st hd hi hs hsl he hk
    have := need_pos st
    obtain ⟨n, hn⟩ : ∃ n, need st = n + 1 := ⟨need st - 1, by omega⟩
    rw [hn] at he
    cases he
  | cons x l ih =>
    intro i most k st hd hi hs hsl he hk
    rw [List.length_cons] at hk
    obtain ⟨k, rfl⟩ : ∃ j, k = j + 1 := ⟨k - 1, by omega⟩
    obtain ⟨hr, hlt, hd2⟩ := rd_drop l0 i x l hd
    have hp := need_pos st
    obtain ⟨n, hn⟩ : ∃ n, need st = n + 1 := ⟨need st - 1, by omega⟩
    have hb := kdB_bounds x.f0 x.f1
    have hk1 : kdT x = kdB x.f0 x.f1 := rfl
    rw [hn] at he
    simp only [endW] at he
    by_cases hx : kdT x < 0
    · rw [if_pos hx] at he; cases he
    rw [if_neg hx] at he
    have he2 : (endW kdT l (n + (kdT x).toNat)).isSome = true := by
      cases h : endW kdT l (n + (kdT x).toNat) with
      | none => rw [h] at he; cases he
      | some m => rfl
    obtain ⟨c, hc⟩ : ∃ c, (kdT x).toNat = c := ⟨_, rfl⟩
    have hkc : kdB x.f0 x.f1 = (c : Int) := by omega
    have henc : encS st ++ [(c : Int)] = encS (c :: st) := rfl
    have hlen : (encS (c :: st)).length = st.length + 1 := by rw [encS_len]; rfl
    have hlim : (encS st).length < 17592186044416 := Nat.lt_of_le_of_lt (by rw [encS_len]; omega : (encS st).length ≤ 1000000) (by decide)
    simp only [tree_Depth.l0]
    rw [if_pos (by omega), if_pos (by omega), if_pos (by omega), hr, Kids_eq _ _ _ _ _ k (by omega), hkc]
    simp only [Option.bind_some]
    rw [if_pos hlim, henc, hlen, mx_nat]
    clear hlim
    by_cases h0 : c = 0
    · subst h0
      obtain ⟨k', hk', e⟩ := Depth_done l0 i (max most (st.length + 1)) st k hs (by omega) (by omega)
      have w1 : wrap64 ((i : Int) + 1) = ((i + 1 : Nat) : Int) := by rw [wrap_id (by omega) (by omega)]; omega
      rw [e, w1, mach_cons0 kdT x l st most hc]
      clear w1 e
      unfold fin
      have hdl := dec_len st
      have hdn := dec_need st (fun d hd => (hs d hd).1)
      cases hds : dec st with
      | nil => rfl
      | cons s st' =>
        simp only []
        have h3 := dec_le3 st hs
        rw [hds] at h3 hdl hdn hk'
        have hne := hdn.2.1 (by simp)
        simp only [List.length_cons] at hdl hk'
        exact ih (i + 1) (max most (st.length + 1)) k' (s :: st') hd2 (by omega) h3 (by rw [List.length_cons]; omega) (by rw [hne, hn]; rw [hc] at he2; simpa using he2) (by rw [List.length_cons]; omega)
    · obtain ⟨k, rfl⟩ : ∃ j, k = j + 2 := ⟨k - 2, by omega⟩
      have hdo := Depth_open l0 i (max most (st.length + 1)) c st k (by omega) (by omega)
      have hms := mach_consS kdT x l st most (by omega)
      have w1 : wrap64 ((i : Int) + 1) = ((i + 1 : Nat) : Int) := by rw [wrap_id (by omega) (by omega)]; omega
      rw [hdo, w1, hms, hc]
      clear w1 hdo hms
      exact ih (i + 1) _ k (c :: st) hd2 (by omega) (by
        intro d hd
        rcases List.mem_cons.1 hd with e | e
        · omega
        · exact hs d e) (by rw [List.length_cons]; omega) (by
        simp only [need]
        rw [hn, show c - 1 + (n + 1) = n + c by omega, ← hc]
        exact he2) (by rw [List.length_cons]; omega)
theorem Depth_eq (l0 : List Nd) (hl : l0.length ≤ 1000000) (k : Nat) (hk : 5 * l0.length + 10 ≤ k) : tree_Depth.f k l0 = some ((depL kdT l0 : Nat) : Int) := by
  unfold tree_Depth.f depL
  have e0 : (0 : Int) = ((0 : Nat) : Int) := rfl
  have := End_eq l0 hl 0 (by omega) k (by omega)
  rw [List.drop_zero, ← e0] at this
  rw [this]
  simp only [Option.bind_some]
  cases h : endW kdT l0 1 with
  | none => simp [outE]
  | some m =>
    simp only [outE]
    rw [if_pos trivial]
    exact Depth_l0 l0 hl l0 0 0 k [] rfl (by omega) (fun c hc => by cases hc) (by simp) (by simp only [need]; rw [h]; rfl) (by rw [List.length_nil]; omega)
end Go.Proofs.Ytdelccahgchadaa
end
section
namespace Go.Proofs.Ytdelccahgchadaa
open Go.RowKit Go.Lib Go.Proofs.Ytdelccahgchadaa.P Go.Proofs.YtdelccahgchadaaW.PrintWords Go.Proofs.YtdelccahgchadaaW.PrintMore
set_option linter.unusedVariables false
abbrev Bs := List UInt8
abbrev L (s : ByteArray) : Bs := s.data.toList
theorem L_size (s : ByteArray) : s.size = (L s).length := by simp
theorem L_append (a b : ByteArray) : L (a ++ b) = L a ++ L b := by simp
theorem L_ext {a b : ByteArray} (h : L a = L b) : a = b := by
  cases a; cases b; congr 1; exact Array.toList_inj.1 h
theorem L_mk (l : Bs) : L ⟨l.toArray⟩ = l := rfl
theorem L_extract (s : ByteArray) (a b : Nat) : L (s.extract a b) = ((L s).drop a).take (b - a) := Lib.extract_data s a b
theorem L_end (s : ByteArray) (a : Nat) : L (s.extract a s.size) = (L s).drop a := Lib.extract_to_end s a
theorem L_bt (s : ByteArray) (i : Nat) (h : i < (L s).length) : bt s (i : Int) = ((L s)[i].toNat : Int) := by
  unfold bt
  rw [dif_pos (by simpa using h)]
  rfl
theorem toList_L (s : ByteArray) : s.toList = L s := Go.ByteArray.toList_eq s
def trimC (c : UInt8) : Bs → Bs
  | [] => []
  | x :: l => if x = c then l else x :: l
theorem trimC_eq (c : UInt8) (l : Bs) : Lib.trimPrefix l [c] = trimC c l := by
  unfold Lib.trimPrefix Lib.hasPrefix
  cases l with
  | nil => rfl
  | cons x l =>
    by_cases h : x = c
    · subst h; simp [trimC]
    · have h2 : ¬ c = x := fun h2 => h h2.symm
      simp [trimC, h, h2]
def runL (p : Int → Bool) (l : Bs) : Nat := (l.takeWhile fun c => p (c.toNat : Int)).length
theorem runN_eq (p : Int → Bool) (s : ByteArray) : Ytdelccahgchadaa.P.runN p s = runL p (L s) := rfl
theorem runL_le (p : Int → Bool) (l : Bs) : runL p l ≤ l.length := by
  unfold runL
  exact List.Sublist.length_le (List.takeWhile_sublist _)
theorem runL_cons (p : Int → Bool) (c : UInt8) (l : Bs) : runL p (c :: l) = if p (c.toNat : Int) = true then runL p l + 1 else 0 := by
  unfold runL
  rw [List.takeWhile_cons]
  split <;> simp
theorem runL_all (p : Int → Bool) (l : Bs) : runL p l = l.length ↔ l.all (fun c => p (c.toNat : Int)) = true := by
  induction l with
  | nil => simp [runL]
  | cons x l ih =>
    rw [runL_cons, List.all_cons]
    by_cases hp : p (x.toNat : Int) = true
    · rw [if_pos hp, hp, Bool.true_and, ← ih, List.length_cons]; omega
    · rw [if_neg hp]
      have : p (x.toNat : Int) = false := by simpa using hp
      rw [this, Bool.false_and, List.length_cons]
      constructor
      · intro h; omega
      · intro h; cases h
def figs (l : Bs) : Bool := l.all isFig
theorem isFig_isD (c : UInt8) : isFig c = isD (c.toNat : Int) := by
  unfold isFig isD
  rw [Bool.eq_iff_iff]
  simp
  omega
theorem figs_run (l : Bs) : figs l = true ↔ runL isD l = l.length := by
  rw [runL_all]
  unfold figs
  have : isFig = fun c : UInt8 => isD (c.toNat : Int) := funext isFig_isD
  rw [this]
def mayB (l : Bs) : Bool :=
  let f := trimC 45 l
  decide (1 ≤ f.length) && decide (f.length ≤ 100) && (!(f.head? == some 48) || l == [48]) && figs f
def numberL (l : Bs) : Option Bs :=
  let f := trimC 95 l
  let n := if f = l then f else 45 :: f
  if figs f && mayB n then some n else none
def signsL : Bs := [43, 45, 42, 37, 33, 38, 124, 60, 62, 61, 126, 44, 35, 94, 36, 63, 64]
def advsL : Bs := [39, 47, 92, 46, 96]
def marksL : Bs := [40, 41, 91, 93, 123, 125, 58]
def firstL (l : Bs) : Nat × Nat :=
  match l with
  | [] => (0, 0)
  | c :: _ =>
    if isLow (c.toNat : Int) = true then (2, runL isWordC l)
    else if isUp (c.toNat : Int) = true then (3, runL isVerbC l)
    else if signsL.contains c then (4, 1)
    else if advsL.contains c then (5, 1)
    else if marksL.contains c then (6, 1)
    else let f := trimC 95 l
      let n := l.length - f.length + runL isD f
      if (numberL (l.take n)).isSome then (1, n) else (0, 0)
structure Tk where
  kind : Nat
  text : Bs
  pos : Nat
deriving DecidableEq
def lexF : Nat → Nat → Bs → Nat ⊕ List Tk
  | 0, p, _ => .inl p
  | _ + 1, _, [] => .inr []
  | f + 1, p, c :: l =>
    if c = 32 then lexF f (p + 1) l
    else
      let k := (firstL (c :: l)).1
      let n := (firstL (c :: l)).2
      if k = 0 then .inl p
      else match lexF f (p + n) ((c :: l).drop n) with
        | .inl e => .inl e
        | .inr ts => .inr (⟨k, (c :: l).take n, p⟩ :: ts)
theorem trimC_len (c : UInt8) (l : Bs) : (trimC c l).length ≤ l.length ∧ l.length ≤ (trimC c l).length + 1 := by
  cases l with
  | nil => simp [trimC]
  | cons x l =>
    by_cases h : x = c
    · simp [trimC, h]
    · simp [trimC, h]
theorem runL_pos (p : Int → Bool) (c : UInt8) (l : Bs) (h : p (c.toNat : Int) = true) : 1 ≤ runL p (c :: l) := by
  rw [runL_cons, if_pos h]; omega
theorem low_word {c : Int} (h : isLow c = true) : isWordC c = true := by unfold isWordC; rw [h]; rfl
theorem up_verb {c : Int} (h : isUp c = true) : isVerbC c = true := by unfold isVerbC; rw [h]; simp
theorem numberL_take_pos {l : Bs} {n : Nat} (h : (numberL (l.take n)).isSome = true) : 1 ≤ n := by
  cases n with
  | zero => rw [List.take_zero] at h; revert h; decide
  | succ n => omega
theorem firstL_bounds (c : UInt8) (l : Bs) (h : (firstL (c :: l)).1 ≠ 0) : 1 ≤ (firstL (c :: l)).2 ∧ (firstL (c :: l)).2 ≤ (c :: l).length ∧ (firstL (c :: l)).1 ≤ 6 := by
  unfold firstL at h ⊢
  simp only [] at h ⊢
  by_cases h1 : isLow (c.toNat : Int) = true
  · rw [if_pos h1]; exact ⟨runL_pos _ _ _ (low_word h1), runL_le _ _, by simp⟩
  · rw [if_neg h1] at h ⊢
    by_cases h2 : isUp (c.toNat : Int) = true
    · rw [if_pos h2]; exact ⟨runL_pos _ _ _ (up_verb h2), runL_le _ _, by simp⟩
    · rw [if_neg h2] at h ⊢
      by_cases h3 : signsL.contains c = true
      · rw [if_pos h3]; simp
      · rw [if_neg h3] at h ⊢
        by_cases h4 : advsL.contains c = true
        · rw [if_pos h4]; simp
        · rw [if_neg h4] at h ⊢
          by_cases h5 : marksL.contains c = true
          · rw [if_pos h5]; simp
          · rw [if_neg h5] at h ⊢
            by_cases h6 : (numberL ((c :: l).take ((c :: l).length - (trimC 95 (c :: l)).length + runL isD (trimC 95 (c :: l))))).isSome = true
            · rw [if_pos h6]
              have a := trimC_len 95 (c :: l)
              have b := runL_le isD (trimC 95 (c :: l))
              exact ⟨numberL_take_pos h6, by simp only []; omega, by simp⟩
            · rw [if_neg h6] at h; exact absurd rfl h
end Go.Proofs.Ytdelccahgchadaa
end
section
namespace Go.Proofs.Ytdelccahgchadaa
open Go.RowKit Go.Lib Go.Proofs.Ytdelccahgchadaa.P Go.Proofs.YtdelccahgchadaaW.PrintWords Go.Proofs.YtdelccahgchadaaW.PrintMore
set_option linter.unusedVariables false
deriving instance DecidableEq for Sum
def lexL (l : Bs) : Nat ⊕ List Tk := lexF (l.length + 1) 0 l
end Go.Proofs.Ytdelccahgchadaa
end
section
namespace Go.Proofs.Ytdelccahgchadaa
open Go.RowKit Go.Lib Go.Proofs.Ytdelccahgchadaa.P Go.Proofs.YtdelccahgchadaaW.PrintWords Go.Proofs.YtdelccahgchadaaW.PrintMore
set_option linter.unusedVariables false
abbrev mkB (l : Bs) : ByteArray := ⟨l.toArray⟩
theorem mkB_L (s : ByteArray) : mkB (L s) = s := L_ext rfl
theorem trimP (s : ByteArray) (c : UInt8) : strings_TrimPrefix.f s ⟨#[c]⟩ = some (mkB (trimC c (L s))) := by
  unfold strings_TrimPrefix.f
  have : (⟨#[c]⟩ : ByteArray).data.toList = [c] := rfl
  rw [this, trimC_eq]
theorem mkB_size (l : Bs) : (mkB l).size = l.length := by simp [ByteArray.size]
theorem bt_head (c : UInt8) (l : Bs) : bt (mkB (c :: l)) 0 = (c.toNat : Int) := by
  have := L_bt (mkB (c :: l)) 0 (by simp)
  exact this
theorem allFig_L (s : ByteArray) : allFig s = figs (L s) := rfl
theorem byte_iff (c d : UInt8) : ((c.toNat : Int) = (d.toNat : Int)) ↔ c = d := by
  constructor
  · intro h; exact UInt8.toNat_inj.1 (by omega)
  · rintro rfl; rfl
theorem May_eq (s : ByteArray) : num_May.f s = some (mayB (L s)) := by
  unfold num_May.f mayB
  rw [trimP]
  simp only [Option.bind_some, mkB_size]
  obtain ⟨f, hf⟩ : ∃ f, trimC 45 (L s) = f := ⟨_, rfl⟩
  rw [hf]
  cases f with
  | nil => simp
  | cons c f =>
    rw [if_neg (by rw [List.length_cons]; omega)]
    by_cases h : (c :: f).length ≤ 100
    · rw [if_neg (by omega), if_pos (by rw [List.length_cons]; omega), bt_head]
      unfold ContainsFunc_May.f
      rw [allFig_L, L_mk]
      have e1 : decide (1 ≤ (c :: f).length) = true := by simp
      have e2 : decide ((c :: f).length ≤ 100) = true := by simpa using h
      rw [e1, e2]
      by_cases hc : c = 48
      · subst hc
        rw [if_pos (by decide), toList_L]
        by_cases h0 : L s = [48]
        · rw [if_pos h0, h0]; simp
        · rw [if_neg h0]
          have : (L s == [48]) = false := by simpa using h0
          rw [this]; simp
      · have hne : ¬ ((c.toNat : Int) = 48) := fun h' => hc ((byte_iff c 48).1 h')
        rw [if_neg hne]
        have : ((c :: f).head? == some 48) = false := by simpa using hc
        rw [this]; simp
    · rw [if_pos (by omega)]
      have e2 : decide ((c :: f).length ≤ 100) = false := by simpa using h
      rw [e2]; simp
def outN (o : Option Bs) : ByteArray × Bool := match o with | some n => (mkB n, true) | none => (⟨#[]⟩, false)
theorem number_eq (s : ByteArray) (hs : s.size ≤ 140737488351232) (k : Nat) (hk : 1 ≤ k) : lex_Number.f k s = some (outN (numberL (L s))) := by
  obtain ⟨k, rfl⟩ : ∃ j, k = j + 1 := ⟨k - 1, by omega⟩
  unfold lex_Number.f numberL
  rw [trimP]
  simp only [Option.bind_some, mkB_size, toList_L, L_mk]
  obtain ⟨f, hf⟩ : ∃ f, trimC 95 (L s) = f := ⟨_, rfl⟩
  have hl := trimC_len 95 (L s)
  rw [← L_size] at hl
  rw [hf] at hl ⊢
  have hj : ∀ n : Bs, lex_Number.j0 (k + 1) (mkB f) (mkB n) = some (outN (if figs f && mayB n then some n else none)) := by
    intro n
    simp only [lex_Number.j0, run_figure.f, runO, May_eq, L_mk, mkB_size]
    rw [if_pos (by omega), runN_eq, L_mk]
    simp only [Option.bind_some]
    by_cases h : figs f = true
    · rw [h, if_pos (by rw [(figs_run f).1 h])]
      cases mayB n with
      | true => rfl
      | false => rfl
    · rw [if_neg (fun h' => h ((figs_run f).2 (by omega)))]
      have : figs f = false := by simpa using h
      rw [this]; rfl
  by_cases h : f = L s
  · rw [if_pos h, if_pos h, hj]
  · rw [if_neg h, if_neg h, if_pos (by omega)]
    have e : (⟨#[45]⟩ : ByteArray) ++ mkB f = mkB (45 :: f) := L_ext (by rw [L_append]; rfl)
    rw [e, hj]
theorem indexB_iff (l : Bs) (c : UInt8) : ∃ t, strings_IndexByte.f (mkB l) (c.toNat : Int) = some t ∧ (t ≥ 0 ↔ l.contains c = true) := by
  refine ⟨_, rfl, ?_⟩
  have e : ((c.toNat : Int).toNat.toUInt8) = c := Lib.byte_back' c
  have e2 : (mkB l).data.toList = l := rfl
  rw [e, e2, Lib.contains_iff_indexByte]
  simp
theorem first_eq (s : ByteArray) (h0 : 0 < s.size) (hs : s.size ≤ 256) (k : Nat) (hk : 1 ≤ k) : lex_first.f k s = some (((firstL (L s)).1 : Int), ((firstL (L s)).2 : Int)) := by
  obtain ⟨l, hl⟩ : ∃ l, L s = l := ⟨_, rfl⟩
  obtain rfl : s = mkB l := by rw [← hl, mkB_L]
  clear hl
  rw [mkB_size] at h0 hs
  cases l with
  | nil => simp at h0
  | cons c l =>
    unfold lex_first.f firstL
    simp only [L_mk]
    rw [if_pos (by rw [mkB_size]; omega), bt_head]
    have hS : lex_small.f (c.toNat : Int) = some (isLow (c.toNat : Int)) := by
      unfold lex_small.f isLow
      by_cases h : (c.toNat : Int) ≥ 97
      · rw [if_pos h]; congr 1; rw [Bool.eq_iff_iff, decide_eq_true_iff, decide_eq_true_iff]; omega
      · rw [if_neg h]; congr 1; rw [Bool.eq_iff_iff, decide_eq_true_iff]; simp; omega
    have hG : lex_great.f (c.toNat : Int) = some (isUp (c.toNat : Int)) := by
      unfold lex_great.f isUp
      by_cases h : (c.toNat : Int) ≥ 65
      · rw [if_pos h]; congr 1; rw [Bool.eq_iff_iff, decide_eq_true_iff, decide_eq_true_iff]; omega
      · rw [if_neg h]; congr 1; rw [Bool.eq_iff_iff, decide_eq_true_iff]; simp; omega
    rw [hS, hG]
    simp only [Option.bind_some]
    by_cases h1 : isLow (c.toNat : Int) = true
    · rw [if_pos h1, if_pos h1]
      simp only [run_word.f, runO]
      rw [if_pos (by rw [mkB_size]; omega)]
      rfl
    rw [if_neg h1, if_neg h1]
    by_cases h2 : isUp (c.toNat : Int) = true
    · rw [if_pos h2, if_pos h2]
      simp only [run_verb.f, runO]
      rw [if_pos (by rw [mkB_size]; omega)]
      rfl
    rw [if_neg h2, if_neg h2]
    obtain ⟨t3, e3, i3⟩ := indexB_iff signsL c
    obtain ⟨t4, e4, i4⟩ := indexB_iff advsL c
    obtain ⟨t5, e5, i5⟩ := indexB_iff marksL c
    have e3' : strings_IndexByte.f (⟨#[43, 45, 42, 37, 33, 38, 124, 60, 62, 61, 126, 44, 35, 94, 36, 63, 64]⟩ : ByteArray) (c.toNat : Int) = some t3 := e3
    have e4' : strings_IndexByte.f (⟨#[39, 47, 92, 46, 96]⟩ : ByteArray) (c.toNat : Int) = some t4 := e4
    have e5' : strings_IndexByte.f (⟨#[40, 41, 91, 93, 123, 125, 58]⟩ : ByteArray) (c.toNat : Int) = some t5 := e5
    rw [e3', e4', e5', trimP]
    simp only [Option.bind_some, L_mk]
    by_cases h3 : t3 ≥ 0
    · rw [if_pos h3, if_pos (i3.1 h3)]; rfl
    rw [if_neg h3, if_neg (fun h => h3 (i3.2 h))]
    by_cases h4 : t4 ≥ 0
    · rw [if_pos h4, if_pos (i4.1 h4)]; rfl
    rw [if_neg h4, if_neg (fun h => h4 (i4.2 h))]
    by_cases h5 : t5 ≥ 0
    · rw [if_pos h5, if_pos (i5.1 h5)]; rfl
    rw [if_neg h5, if_neg (fun h => h5 (i5.2 h))]
    have hl := trimC_len 95 (c :: l)
    obtain ⟨f, hf⟩ : ∃ f, trimC 95 (c :: l) = f := ⟨_, rfl⟩
    rw [hf] at hl ⊢
    have hr := runL_le isD f
    have er : run_figure.f (mkB f) = some (runL isD f : Int) := by
      simp only [run_figure.f, runO]
      rw [if_pos (by rw [mkB_size]; omega)]
      rfl
    rw [er]
    simp only [Option.bind_some, mkB_size]
    obtain ⟨n, hn⟩ : ∃ n, (c :: l).length - f.length + runL isD f = n := ⟨_, rfl⟩
    have hw : wrap64 (wrap64 (((c :: l).length : Int) - (f.length : Int)) + (runL isD f : Int)) = (n : Int) := by
      rw [wrap_id (a := ((c :: l).length : Int) - (f.length : Int)) (by omega) (by omega), wrap_id (by omega) (by omega)]; omega
    rw [hw, if_pos (by omega), if_pos (by omega)]
    have hx : (mkB (c :: l)).extract 0 (n : Int).toNat = mkB ((c :: l).take n) := L_ext (by rw [L_extract]; simp [L_mk])
    rw [hx, number_eq _ (by rw [mkB_size, List.length_take]; omega) k hk, L_mk, hn]
    simp only [Option.bind_some]
    cases hN : numberL ((c :: l).take n) with
    | none => rfl
    | some m => rfl
def encT (t : Tk) : S71 := ⟨(t.kind : Int), mkB t.text, (t.pos : Int)⟩
def outL (o : Nat ⊕ List Tk) : List S71 × Int × Int := match o with | .inl e => ([], (e : Int), 2) | .inr ts => (ts.map encT, 0, 0)
theorem lex_l0 (s : ByteArray) (hs : s.size ≤ 256) : ∀ (m k p : Nat) (acc : List S71), p ≤ s.size → s.size - p < m → s.size - p + 1 < k → acc.length ≤ p →
    lex_Lex.l0 k s acc (p : Int) = some (match lexF m p ((L s).drop p) with | .inl e => ([], (e : Int), 2) | .inr ts => (acc ++ ts.map encT, 0, 0)) := by
  intro m
  induction m with
  | zero => intro k p acc _ h; omega
  | succ m ih =>
    intro k p acc hp hm hk ha
    obtain ⟨k, rfl⟩ : ∃ j, k = j + 1 := ⟨k - 1, by omega⟩
    have hlen : ((L s).drop p).length = s.size - p := by rw [List.length_drop, ← L_size]
    simp only [lex_Lex.l0]
    cases hl : (L s).drop p with
    | nil =>
      rw [hl, List.length_nil] at hlen
      rw [if_neg (by omega)]
      simp [lexF]
    | cons c l =>
      rw [hl, List.length_cons] at hlen
      have hpl : p < (L s).length := by rw [← L_size]; omega
      have hg : (L s)[p] = c := by
        have := List.drop_eq_getElem_cons hpl
        rw [hl] at this
        injection this with h1 h2
        exact h1.symm
      rw [if_pos (by omega), if_pos (by omega), if_pos (by decide), L_bt s p hpl, hg]
      have e32 : bt (⟨#[32]⟩ : ByteArray) 0 = ((32 : UInt8).toNat : Int) := by decide
      rw [e32]
      simp only [lexF]
      by_cases hc : c = 32
      · rw [if_pos (by rw [hc]), if_pos hc, wrap_id (by omega) (by omega)]
        have := ih k (p + 1) acc (by omega) (by omega) (by omega) (by omega)
        have hd : (L s).drop (p + 1) = l := by rw [← List.drop_drop, hl]; rfl
        rw [hd] at this
        exact_mod_cast this
      · rw [if_neg (fun h => hc ((byte_iff c 32).1 h)), if_neg hc, if_pos (by omega)]
        have hx : s.extract (p : Int).toNat s.size = mkB (c :: l) := L_ext (by rw [L_end, L_mk, Int.toNat_natCast, hl])
        rw [hx, first_eq _ (by rw [mkB_size, List.length_cons]; omega) (by rw [mkB_size, List.length_cons]; omega) k (by omega), L_mk]
        simp only [Option.bind_some]
        by_cases h0 : (firstL (c :: l)).1 = 0
        · rw [if_pos (by omega), if_pos h0]
        · have hb := firstL_bounds c l h0
          rw [if_neg (by omega), if_neg h0]
          obtain ⟨kk, hkk⟩ : ∃ kk, (firstL (c :: l)).1 = kk := ⟨_, rfl⟩
          obtain ⟨n, hn⟩ : ∃ n, (firstL (c :: l)).2 = n := ⟨_, rfl⟩
          rw [hkk, hn] at hb ⊢
          rw [List.length_cons] at hb
          have hw : wrap64 ((p : Int) + (n : Int)) = ((p + n : Nat) : Int) := by rw [wrap_id (by omega) (by omega)]; omega
          have hacc : acc.length < 4398046511104 := Nat.lt_of_le_of_lt ha (Nat.lt_of_le_of_lt hp (Nat.lt_of_le_of_lt hs (by decide)))
          rw [hw]
          clear hw
          rw [if_pos (by omega), if_pos (by omega), if_pos hacc]
          have hy : s.extract (p : Int).toNat ((p + n : Nat) : Int).toNat = mkB ((c :: l).take n) := L_ext (by
            rw [L_extract, L_mk, Int.toNat_natCast, Int.toNat_natCast, hl, Nat.add_sub_cancel_left])
          rw [hy]
          have hd : (L s).drop (p + n) = (c :: l).drop n := by rw [← List.drop_drop, hl]
          have := ih k (p + n) (acc ++ [(⟨(kk : Int), mkB ((c :: l).take n), (p : Int)⟩ : S71)]) (by omega) (by omega) (by omega) (by rw [List.length_append, List.length_singleton]; omega)
          rw [hd] at this
          rw [this]
          cases lexF m (p + n) ((c :: l).drop n) with
          | inl e => rfl
          | inr ts => simp [encT]
theorem lex_eq (s : ByteArray) (hs : s.size ≤ 256) (k : Nat) (hk : 258 < k) : lex_Lex.f k s = some (outL (lexL (L s))) := by
  unfold lex_Lex.f lexL
  rw [if_neg (by omega)]
  have := lex_l0 s hs (s.size + 1) k 0 [] (by omega) (by omega) (by omega) (by simp)
  rw [List.drop_zero] at this
  have e : ((0 : Nat) : Int) = 0 := rfl
  rw [e] at this
  rw [this, ← L_size]
  cases lexF (s.size + 1) 0 (L s) with
  | inl e => rfl
  | inr ts => rfl
theorem lex_big (s : ByteArray) (hs : 256 < s.size) (k : Nat) : lex_Lex.f k s = some ([], 0, 8) := by
  unfold lex_Lex.f
  rw [if_pos (by omega)]
end Go.Proofs.Ytdelccahgchadaa
end
section
namespace Go.Proofs.Ytdelccahgchadaa
open Go.RowKit Go.Lib Go.Proofs.Ytdelccahgchadaa.P Go.Proofs.YtdelccahgchadaaW.PrintWords Go.Proofs.YtdelccahgchadaaW.PrintMore
set_option linter.unusedVariables false
def isB (s : ByteArray) (kind : Int) : Bool :=
  if s.size ≤ 256 then (match lexL (L s) with | .inr [t] => t.text == L s && decide ((t.kind : Int) = kind) | _ => false) else false
theorem is_eq (s : ByteArray) (kind : Int) (k : Nat) (hk : 258 < k) : tree_is.f k s kind = some (isB s kind) := by
  unfold tree_is.f isB
  by_cases hs : s.size ≤ 256
  · rw [if_pos hs, lex_eq s hs k hk]
    cases lexL (L s) with
    | inl e => simp [outL]
    | inr ts =>
      cases ts with
      | nil => simp [outL]
      | cons t ts =>
        cases ts with
        | nil =>
          simp only [outL, Option.bind_some, List.map_cons, List.map_nil, List.length_singleton]
          rw [if_pos trivial, if_pos (by decide), if_pos (by decide)]
          have q1 : (rd_T71 [encT t] 0).f1.toList = t.text := by
            have : (rd_T71 [encT t] 0).f1 = mkB t.text := rfl
            rw [this, toList_L]
          have q2 : (rd_T71 [encT t] 0).f0 = (t.kind : Int) := rfl
          rw [q1, q2, toList_L]
          by_cases h : t.text = L s
          · rw [if_pos h, h]; simp
            rfl
          · rw [if_neg h]
            have : (t.text == L s) = false := by simpa using h
            rw [this]; rfl
        | cons u ts =>
          simp only [outL, Option.bind_some, List.map_cons, List.length_cons]
          rw [if_pos trivial, if_neg (by omega)]
  · rw [if_neg hs, lex_big s (by omega)]
    simp
def verbB (s : ByteArray) : Bool := s.toList == ([123] : List UInt8) || isB s 4 || isB s 3
theorem verb_eq (s : ByteArray) (k : Nat) (hk : 258 < k) : tree_verb.f k s = some (verbB s) := by
  unfold tree_verb.f verbB
  by_cases h : s.toList = ([123] : List UInt8)
  · rw [if_pos h, h]; rfl
  · rw [if_neg h, is_eq s 4 k hk, is_eq s 3 k hk]
    have : (s.toList == ([123] : List UInt8)) = false := by simpa using h
    rw [this]
    cases isB s 4 <;> simp
def advB (s of : ByteArray) : Bool := s.toList == ([] : List UInt8) || (match L s with | [c] => (L of).contains c | _ => false)
theorem adv_eq (s of : ByteArray) : tree_adv.f s of = some (advB s of) := by
  unfold tree_adv.f advB
  by_cases h : s.toList = ([] : List UInt8)
  · rw [if_pos h, h]; rfl
  · rw [if_neg h]
    have h2 : (s.toList == ([] : List UInt8)) = false := by simpa using h
    rw [h2, Bool.false_or]
    have hz : s.size = (L s).length := L_size s
    unfold strings_Contains.f
    by_cases h1 : (s.size : Int) = 1
    · rw [if_pos h1]
      obtain ⟨c, hc⟩ : ∃ c, L s = [c] := by
        cases hl : L s with
        | nil => rw [hl, List.length_nil] at hz; omega
        | cons c l =>
          cases l with
          | nil => exact ⟨c, rfl⟩
          | cons d l => rw [hl, List.length_cons, List.length_cons] at hz; omega
      have hc2 : s.data.toList = [c] := hc
      rw [hc2, hc]
      simp
    · rw [if_neg h1]
      cases hl : L s with
      | nil => rfl
      | cons c l =>
        cases l with
        | nil => rw [hl, List.length_singleton] at hz; omega
        | cons d l => rfl
end Go.Proofs.Ytdelccahgchadaa
end
section
namespace Go.Proofs.Ytdelccahgchadaa
open Go.RowKit Go.Lib Go.Proofs.Ytdelccahgchadaa.P Go.Proofs.YtdelccahgchadaaW.PrintWords Go.Proofs.YtdelccahgchadaaW.PrintMore
set_option linter.unusedVariables false
theorem rdS_get (l : List ByteArray) (i : Nat) (h : i < l.length) : rdOf ByteArray.empty l (i : Int) = l[i] := by
  unfold rdOf
  rw [Int.toNat_natCast, List.getD_eq_getElem?_getD, List.getElem?_eq_getElem h]
  rfl
theorem IndexNum (l : List ByteArray) (hl : l.length ≤ 1000000) : ∀ (m i k : Nat), l.length - i < m → m ≤ k → i ≤ l.length → ∃ r, slices_IndexFunc_string_string.l0 k l (l.length : Int) (i : Int) = some r ∧ decide (r ≥ 0) = (l.drop i).any fun s => !mayB (L s) := by
  intro m
  induction m with
  | zero => intro i k h; omega
  | succ m ih =>
    intro i k h hk hi
    obtain ⟨k, rfl⟩ : ∃ j, k = j + 1 := ⟨k - 1, by omega⟩
    simp only [slices_IndexFunc_string_string.l0]
    by_cases hlt : (i : Int) < (l.length : Int)
    · have hil : i < l.length := by omega
      rw [if_pos hlt, if_pos (by omega), if_pos hlt, rdS_get l i hil, List.drop_eq_getElem_cons hil, List.any_cons]
      unfold tree_may_1.f
      rw [May_eq]
      simp only [Option.bind_some]
      cases hm : mayB (L l[i]) with
      | false => exact ⟨(i : Int), by simp, by simp⟩
      | true =>
        obtain ⟨r, h1, h2⟩ := ih (i + 1) k (by omega) (by omega) (by omega)
        refine ⟨r, ?_, by rw [h2]; simp⟩
        have hw : wrap64 ((i : Int) + 1) = ((i + 1 : Nat) : Int) := by rw [wrap_id (by omega) (by omega)]; omega
        rw [hw, h1]; rfl
    · rw [if_neg hlt, List.drop_eq_nil_of_le (by omega)]
      exact ⟨-1, rfl, rfl⟩
theorem ContainsNum (l : List ByteArray) (hl : l.length ≤ 1000000) (k : Nat) (hk : l.length + 1 ≤ k) : slices_ContainsFunc_string_string.f k l = some (l.any fun s => !mayB (L s)) := by
  unfold slices_ContainsFunc_string_string.f slices_IndexFunc_string_string.f
  obtain ⟨r, h1, h2⟩ := IndexNum l hl (l.length + 1) 0 k (by omega) hk (by omega)
  have e0 : (0 : Int) = ((0 : Nat) : Int) := rfl
  rw [e0, h1]
  rw [List.drop_zero] at h2
  simp only [Option.bind_some]
  rw [← h2]
  rfl
def noB (s : ByteArray) : Bool := s.toList == ([] : List UInt8)
def mayN (x : Nd) : Bool :=
  if x.f0 = 1 then noB x.f1 && noB x.f2 && noB x.f3 && !(x.f4.length == 0) && decide (x.f4.length ≤ 100) && !(x.f4.any fun s => !mayB (L s))
  else if x.f0 = 2 ∨ x.f0 = 5 ∨ x.f0 = 6 then noB x.f1 && noB x.f2 && x.f4.length == 0 && isB x.f3 2
  else if x.f0 = 7 then noB x.f1 && noB x.f2 && x.f4.length == 0 && isB x.f3 3
  else if x.f0 = 8 then noB x.f1 && noB x.f2 && x.f4.length == 0 && noB x.f3
  else if x.f0 = 3 then x.f4.length == 0 && noB x.f3 && verbB x.f1 && advB x.f2 ⟨#[39, 47, 92, 96]⟩
  else if x.f0 = 4 then x.f4.length == 0 && noB x.f3 && verbB x.f1 && advB x.f2 ⟨#[39, 46]⟩
  else false
theorem if_andT (a x : Bool) : (if a = true then some x else some false) = some (a && x) := by cases a <;> rfl
theorem noB_if (s : ByteArray) (x : Bool) : (if s.toList = ([] : List UInt8) then some x else some false) = some (noB s && x) := by
  unfold noB
  by_cases h : s.toList = ([] : List UInt8)
  · rw [if_pos h, h]; rfl
  · rw [if_neg h]
    have : (s.toList == ([] : List UInt8)) = false := by simpa using h
    rw [this]; rfl
theorem may_eq (x : Nd) (k : Nat) (hk : 400 < k) : tree_may.f k x.f0 x.f1 x.f2 x.f3 x.f4 = some (mayN x) := by
  obtain ⟨k, rfl⟩ : ∃ j, k = j + 2 := ⟨k - 2, by omega⟩
  obtain ⟨k0, v, a, n, l⟩ := x
  simp only []
  have key : ∀ pl : Bool, pl = (noB v && noB a) → tree_may.j0 (k + 2) ((l.length : Int) == 0) pl k0 v a n l = some (mayN ⟨k0, v, a, n, l⟩) := by
    intro pl hpl
    have hbare : ((l.length : Int) == 0) = (l.length == 0) := by
      rw [Bool.eq_iff_iff]; simp
    rw [hbare]
    simp only [tree_may.j0, tree_may.j1, is_eq _ _ k (by omega), verb_eq _ k (by omega), adv_eq, Option.bind_some, if_andT, noB_if, mayN, ← hpl]
    have hcn : (if (l.length : Int) ≤ 100 then (slices_ContainsFunc_string_string.f (k + 1) l).bind fun t => some (!t) else some false) = some (decide (l.length ≤ 100) && !(l.any fun s => !mayB (L s))) := by
      by_cases h : l.length ≤ 100
      · rw [if_pos (by omega), ContainsNum l (by omega) (k + 1) (by omega), decide_eq_true h]
        rfl
      · rw [if_neg (by omega), decide_eq_false h]
        rfl
    rw [hcn]
    by_cases h1 : k0 = 1
    · subst h1
      cases pl <;> cases (l.length == 0) <;> by_cases hn : n.toList = [] <;> simp [noB, hn]
    rw [if_neg h1, if_neg h1]
    by_cases h2 : k0 = 2
    · subst h2; simp [Bool.and_assoc]
    by_cases h5 : k0 = 5
    · subst h5; simp [Bool.and_assoc]
    by_cases h6 : k0 = 6
    · subst h6; simp [Bool.and_assoc]
    have h256 : ¬ (k0 = 2 ∨ k0 = 5 ∨ k0 = 6) := by omega
    have hb6 : ¬ (k0 == 6) = true := by simpa using h6
    rw [if_neg h2, if_neg h5, if_neg hb6, if_neg h256]
    by_cases h7 : k0 = 7
    · subst h7; simp [Bool.and_assoc]
    rw [if_neg h7, if_neg h7]
    by_cases h8 : k0 = 8
    · subst h8; simp [Bool.and_assoc, noB]
    rw [if_neg h8, if_neg h8]
    by_cases h3 : k0 = 3
    · subst h3; simp [Bool.and_assoc]
    rw [if_neg h3, if_neg h3]
    by_cases h4 : k0 = 4
    · subst h4; simp [Bool.and_assoc]
    rw [if_neg h4, if_neg h4]
  unfold tree_may.f
  by_cases hv : v.toList = ([] : List UInt8)
  · rw [if_pos hv]
    exact key _ (by unfold noB; rw [hv]; rfl)
  · rw [if_neg hv]
    exact key _ (by
      unfold noB
      have : (v.toList == ([] : List UInt8)) = false := by simpa using hv
      rw [this]; rfl)
end Go.Proofs.Ytdelccahgchadaa
end
section
namespace Go.Proofs.Ytdelccahgchadaa
open Go.RowKit Go.Lib Go.Proofs.Ytdelccahgchadaa.P Go.Proofs.YtdelccahgchadaaW.PrintWords Go.Proofs.YtdelccahgchadaaW.PrintMore
set_option linter.unusedVariables false
def headB (x : Nd) : Bool := decide (x.f0 = 5 ∨ x.f0 = 6 ∨ x.f0 = 7)
theorem head_eq (a : Int) (b c d : ByteArray) (l : List ByteArray) : tree_head.f a b c d l = some (decide (a = 5 ∨ a = 6 ∨ a = 7)) := by
  unfold tree_head.f
  by_cases h5 : a = 5
  · subst h5; simp
  by_cases h6 : a = 6
  · subst h6; simp
  by_cases h7 : a = 7
  · subst h7; simp
  simp [h5, h6, h7]
def allN : Nat → List Nd → Bool
  | _, [] => true
  | i, x :: l => mayN x && !(headB x && decide (0 < i)) && allN (i + 1) l
theorem May_l0 (l0 : List Nd) (hl : l0.length ≤ 1000000) : ∀ (l : List Nd) (i k : Nat), l0.drop i = l → i ≤ l0.length → l.length + 410 ≤ k → tree_May.l0 k l0 (l0.length : Int) (i : Int) = some (allN i l) := by
  intro l
  induction l with
  | nil =>
    intro i k hd hi hk
    obtain ⟨k, rfl⟩ : ∃ j, k = j + 1 := ⟨k - 1, by rw [List.length_nil] at hk; omega⟩
    have : l0.length ≤ i := by
      have := congrArg List.length hd
      rw [List.length_drop, List.length_nil] at this
      omega
    simp only [tree_May.l0]
    rw [if_neg (by omega)]
    rfl
  | cons x l ih =>
    intro i k hd hi hk
    rw [List.length_cons] at hk
    obtain ⟨k, rfl⟩ : ∃ j, k = j + 1 := ⟨k - 1, by omega⟩
    obtain ⟨hr, hlt, hd2⟩ := rd_drop l0 i x l hd
    have hi2 := ih (i + 1) k hd2 (by omega) (by omega)
    simp only [tree_May.l0]
    rw [if_pos (by omega), if_pos (by omega), if_pos (by omega), hr, may_eq x k (by omega), head_eq]
    have w1 : wrap64 ((i : Int) + 1) = ((i + 1 : Nat) : Int) := by rw [wrap_id (by omega) (by omega)]; omega
    rw [w1, hi2]
    clear w1
    simp only [Option.bind_some, allN, headB]
    cases mayN x with
    | false => rfl
    | true =>
      cases decide (x.f0 = 5 ∨ x.f0 = 6 ∨ x.f0 = 7) with
      | false => simp
      | true =>
        by_cases h0 : 0 < i
        · rw [if_pos rfl, if_pos rfl, if_pos (by omega), decide_eq_true h0]; rfl
        · rw [if_pos rfl, if_pos rfl, if_neg (by omega), decide_eq_false h0]; simp
def mayL (l : List Nd) : Bool := decide (endW kdT l 1 = some l.length) && decide (depL kdT l ≤ 40) && allN 0 l
theorem May_eqL (l : List Nd) (hl : l.length ≤ 1000000) (k : Nat) (hk : 5 * l.length + 420 ≤ k) : tree_May.f k l = some (mayL l) := by
  unfold tree_May.f mayL
  have e0 : (0 : Int) = ((0 : Nat) : Int) := rfl
  have hE := End_eq l hl 0 (by omega) k (by omega)
  rw [List.drop_zero, ← e0] at hE
  have hD := Depth_eq l hl k (by omega)
  obtain ⟨j, rfl⟩ : ∃ j, k = j + 1 := ⟨k - 1, by omega⟩
  have hM := May_l0 l hl l 0 j rfl (by omega) (by omega)
  rw [← e0] at hM
  rw [hE, hD]
  simp only [Option.bind_some, tree_May.j0, hM]
  cases h : endW kdT l 1 with
  | none => simp [outE]
  | some m =>
    simp only [outE, Nat.zero_add]
    rw [if_pos trivial]
    by_cases hm : m = l.length
    · subst hm
      rw [if_pos rfl]
      by_cases hd : depL kdT l ≤ 40
      · have : decide ((depL kdT l : Int) > 40) = false := decide_eq_false (by omega)
        rw [this, decide_eq_true hd]; simp
      · have : decide ((depL kdT l : Int) > 40) = true := decide_eq_true (by omega)
        rw [this, decide_eq_false hd]; simp
    · rw [if_neg (by omega), if_pos trivial]
      have : decide (some m = some l.length) = false := decide_eq_false (fun h => hm (Option.some.inj h))
      rw [this]; rfl
theorem mayL_parts {l : List Nd} (h : mayL l = true) : endW kdT l 1 = some l.length ∧ depL kdT l ≤ 40 ∧ allN 0 l = true := by
  unfold mayL at h
  simp only [Bool.and_eq_true, decide_eq_true_eq] at h
  exact ⟨h.1.1, h.1.2, h.2⟩
end Go.Proofs.Ytdelccahgchadaa
end
section
namespace Go.Proofs.Ytdelccahgchadaa
open Go.RowKit Go.Lib Go.Proofs.Ytdelccahgchadaa.P Go.Proofs.YtdelccahgchadaaW.PrintWords Go.Proofs.YtdelccahgchadaaW.PrintMore
set_option linter.unusedVariables false
theorem Grow_eq (n : Nat) (h : n ≤ 1000000) : api_Node_64.f (n : Int) = some [] := by
  unfold api_Node_64.f
  have hw : wrap64 (n : Int) = (n : Int) := wrap_id (by omega) (by omega)
  rw [hw]
  clear hw
  rw [if_neg (by omega)]
  by_cases h0 : (n : Int) > 0
  · have hb : ([] : List Nd).length + ((n : Int)).toNat < 1759218604441 := Nat.lt_of_le_of_lt (by rw [List.length_nil, Int.toNat_natCast]; omega : ([] : List Nd).length + ((n : Int)).toNat ≤ 1000000) (by decide)
    rw [if_pos h0, if_pos (by omega), if_pos hb]
    simp only [Option.bind_some]
    rw [if_pos (by omega)]
    rfl
  · rw [if_neg h0]
def lens (l : List (List Nd)) : Nat := (l.map List.length).sum
theorem rdL_at (l : List (List Nd)) (i : Nat) (h : i < l.length) : rd_L7 l (i : Int) = l[i] := by
  unfold rd_L7
  rw [Int.toNat_natCast, List.getD_eq_getElem?_getD, List.getElem?_eq_getElem h]
  rfl
theorem Concat_l1 (l : List (List Nd)) (hl : l.length ≤ 1000) : ∀ (m i k : Nat) (acc : List Nd), l.length - i < m → m ≤ k → i ≤ l.length → acc.length + lens (l.drop i) ≤ 1000000 → api_Node_48.l1 k acc l (l.length : Int) (i : Int) = some (acc ++ (l.drop i).flatten) := by
  intro m
  induction m with
  | zero => intro i k acc h; omega
  | succ m ih =>
    intro i k acc h hk hi hs
    obtain ⟨k, rfl⟩ : ∃ j, k = j + 1 := ⟨k - 1, by omega⟩
    simp only [api_Node_48.l1]
    by_cases hlt : (i : Int) < (l.length : Int)
    · have hil : i < l.length := by omega
      rw [List.drop_eq_getElem_cons hil] at hs ⊢
      simp only [lens, List.map_cons, List.sum_cons] at hs
      have hb : acc.length + l[i].length < 1759218604441 := Nat.lt_of_le_of_lt (by omega : acc.length + l[i].length ≤ 1000000) (by decide)
      rw [if_pos hlt, if_pos (by omega), if_pos hlt, rdL_at l i hil, if_pos hb]
      have hi2 := ih (i + 1) k (acc ++ l[i]) (by omega) (by omega) (by omega) (by rw [List.length_append]; unfold lens; omega)
      have hw : wrap64 ((i : Int) + 1) = ((i + 1 : Nat) : Int) := by rw [wrap_id (by omega) (by omega)]; omega
      rw [hw, hi2, List.flatten_cons, List.append_assoc]
    · rw [if_neg hlt, List.drop_eq_nil_of_le (by omega)]
      simp
theorem Concat_l0 (l : List (List Nd)) (hl : l.length ≤ 1000) (hs : lens l ≤ 1000000) : ∀ (m i k n : Nat), l.length - i < m → m + 1100 ≤ k → i ≤ l.length → n + lens (l.drop i) ≤ 1000000 → api_Node_48.l0 k l (n : Int) l (l.length : Int) (i : Int) = some l.flatten := by
  intro m
  induction m with
  | zero => intro i k n h; omega
  | succ m ih =>
    intro i k n h hk hi hn
    obtain ⟨k, rfl⟩ : ∃ j, k = j + 1 := ⟨k - 1, by omega⟩
    simp only [api_Node_48.l0]
    by_cases hlt : (i : Int) < (l.length : Int)
    · have hil : i < l.length := by omega
      rw [List.drop_eq_getElem_cons hil] at hn
      simp only [lens, List.map_cons, List.sum_cons] at hn
      have hi2 := ih (i + 1) k (n + l[i].length) (by omega) (by omega) (by omega) (by unfold lens; omega)
      rw [if_pos hlt, if_pos (by omega), if_pos hlt, rdL_at l i hil]
      have hw0 : wrap64 ((n : Int) + (l[i].length : Int)) = ((n + l[i].length : Nat) : Int) := by rw [wrap_id (by omega) (by omega)]; omega
      have hw : wrap64 ((i : Int) + 1) = ((i + 1 : Nat) : Int) := by rw [wrap_id (by omega) (by omega)]; omega
      rw [hw0, hw]
      clear hw hw0
      rw [if_neg (by omega), hi2]
    · have hg := Grow_eq n (by omega)
      rw [if_neg hlt, hg]
      simp only [Option.bind_some]
      have e0 : (0 : Int) = ((0 : Nat) : Int) := rfl
      rw [e0, Concat_l1 l hl (l.length + 1) 0 k [] (by omega) (by omega) (by omega) (by rw [List.drop_zero, List.length_nil]; omega), List.drop_zero, List.nil_append]
theorem Concat_eq (l : List (List Nd)) (hl : l.length ≤ 1000) (hs : lens l ≤ 1000000) (k : Nat) (hk : 2200 ≤ k) : api_Node_48.f k l = some l.flatten := by
  unfold api_Node_48.f
  have e0 : (0 : Int) = ((0 : Nat) : Int) := rfl
  rw [e0]
  exact Concat_l0 l hl hs (l.length + 1) 0 k 0 (by omega) (by omega) (by omega) (by rw [List.drop_zero]; omega)
theorem Node_eq (a : Int) (b c d : ByteArray) (e : List ByteArray) (l : List (List Nd)) (hl : l.length ≤ 1000) (hs : lens l ≤ 1000000) (k : Nat) (hk : 2200 ≤ k) : tree_Node.f k a b c d e l = some (⟨a, b, c, d, e⟩ :: l.flatten) := by
  unfold tree_Node.f
  rw [Concat_eq l hl hs k hk]
  simp only [Option.bind_some]
  have hf : l.flatten.length = lens l := by simp [lens, List.length_flatten]
  have hb : [(⟨a, b, c, d, e⟩ : Nd)].length + l.flatten.length < 1759218604441 := Nat.lt_of_le_of_lt (by rw [hf, List.length_singleton]; omega : [(⟨a, b, c, d, e⟩ : Nd)].length + l.flatten.length ≤ 1000001) (by decide)
  rw [if_pos hb]
  rfl
end Go.Proofs.Ytdelccahgchadaa
end
section
namespace Go.Proofs.Ytdelccahgchadaa
open Go.RowKit Go.Lib Go.Proofs.Ytdelccahgchadaa.P Go.Proofs.YtdelccahgchadaaW.PrintWords Go.Proofs.YtdelccahgchadaaW.PrintMore
set_option linter.unusedVariables false
def undP (l : List Nd) : Nat → Nat → List Nat
  | 0, _ => []
  | c + 1, p => p :: undP l c (match endW kdT (l.drop p) 1 with | none => 0 | some m => p + m)
theorem outE_fst (i : Nat) (o : Option Nat) : (outE i o).1 = (((match o with | none => 0 | some m => i + m) : Nat) : Int) := by cases o <;> rfl
theorem Under_l0 (l : List Nd) (hl : l.length ≤ 1000000) (K : Nat) (hK : K ≤ 3) : ∀ (c j p k : Nat) (acc : List Int), j + c = K → p ≤ l.length → l.length + c + 10 ≤ k → acc.length ≤ j →
    tree_Under.l0 k l acc (p : Int) (K : Int) (j : Int) = some (acc ++ (undP l c p).map fun n : Nat => (n : Int)) := by
  intro c
  induction c with
  | zero =>
    intro j p k acc hj hp hk ha
    obtain ⟨k, rfl⟩ : ∃ i, k = i + 1 := ⟨k - 1, by omega⟩
    simp only [tree_Under.l0]
    rw [if_neg (by omega)]
    simp [undP]
  | succ c ih =>
    intro j p k acc hj hp hk ha
    obtain ⟨k, rfl⟩ : ∃ i, k = i + 1 := ⟨k - 1, by omega⟩
    simp only [tree_Under.l0]
    have hb : acc.length < 17592186044416 := Nat.lt_of_le_of_lt (by omega : acc.length ≤ 3) (by decide)
    obtain ⟨q, hq⟩ : ∃ q, (match endW kdT (l.drop p) 1 with | none => 0 | some m => p + m) = q := ⟨_, rfl⟩
    have hql : q ≤ l.length := by
      rw [← hq]
      cases h : endW kdT (l.drop p) 1 with
      | none => exact Nat.zero_le _
      | some m =>
        have := (endW_le kdT h).1
        rw [List.length_drop] at this
        simp only []
        omega
    have hi2 := ih (j + 1) q k (acc ++ [(p : Int)]) (by omega) hql (by omega) (by rw [List.length_append, List.length_singleton]; omega)
    rw [if_pos (by omega), if_pos hb, End_eq l hl p hp k (by omega)]
    simp only [Option.bind_some]
    have hw : wrap64 ((j : Int) + 1) = ((j + 1 : Nat) : Int) := by rw [wrap_id (by omega) (by omega)]; omega
    rw [outE_fst, hq, hw, hi2]
    simp only [undP, hq, List.map_cons, List.append_assoc]
    rfl
def undL (l : List Nd) (i : Nat) : List Nat := match endW kdT (l.drop i) 1, l.drop i with | some _, x :: _ => undP l (kdT x).toNat (i + 1) | _, _ => []
theorem Under_eq (l : List Nd) (hl : l.length ≤ 1000000) (i : Nat) (hi : i ≤ l.length) (k : Nat) (hk : l.length + 20 ≤ k) : tree_Under.f k l (i : Int) = some ((undL l i).map fun n : Nat => (n : Int)) := by
  unfold tree_Under.f undL
  rw [End_eq l hl i hi k (by omega)]
  simp only [Option.bind_some]
  cases h : endW kdT (l.drop i) 1 with
  | none => simp [outE]
  | some m =>
    simp only [outE]
    rw [if_pos trivial]
    cases hd : l.drop i with
    | nil => rw [hd] at h; cases h
    | cons x r =>
      obtain ⟨hr, hlt, hd2⟩ := rd_drop l i x r hd
      rw [if_pos (by omega), if_pos (by omega), hr, Kids_eq _ _ _ _ _ k (by omega)]
      simp only [Option.bind_some]
      have hb := kdB_bounds x.f0 x.f1
      have hk0 : ¬ kdT x < 0 := by
        intro hn
        rw [hd] at h
        simp only [endW] at h
        rw [if_pos hn] at h
        cases h
      have hk1 : kdT x = kdB x.f0 x.f1 := rfl
      obtain ⟨c, hc⟩ : ∃ c, (kdT x).toNat = c := ⟨_, rfl⟩
      have hkc : kdB x.f0 x.f1 = (c : Int) := by omega
      have hu := Under_l0 l hl c (by omega) c 0 (i + 1) k [] (by omega) (by omega) (by omega) (by simp)
      have hw : wrap64 ((i : Int) + 1) = ((i + 1 : Nat) : Int) := by rw [wrap_id (by omega) (by omega)]; omega
      have e0 : (0 : Int) = ((0 : Nat) : Int) := rfl
      rw [hkc, hw, e0, hu, hc, List.nil_append]
theorem shown08_eq (k : Nat) (hk : 3000 ≤ k) : reredoslaw08_shown.f k = some true := by
  unfold reredoslaw08_shown.f reredoslaw08_lit.f
  simp only [Option.bind_some]
  rw [Node_eq _ _ _ _ _ _ (by decide) (by decide) k (by omega)]
  simp only [Option.bind_some]
  have hM := May_eqL ((⟨4, ⟨#[43]⟩, ⟨#[]⟩, ⟨#[]⟩, []⟩ : Nd) :: [[(⟨1, ⟨#[]⟩, ⟨#[]⟩, ⟨#[]⟩, [⟨#[49]⟩]⟩ : Nd)], [(⟨1, ⟨#[]⟩, ⟨#[]⟩, ⟨#[]⟩, [⟨#[50]⟩]⟩ : Nd)]].flatten) (by decide) k (by simp; omega)
  have hD := Depth_eq ((⟨4, ⟨#[43]⟩, ⟨#[]⟩, ⟨#[]⟩, []⟩ : Nd) :: [[(⟨1, ⟨#[]⟩, ⟨#[]⟩, ⟨#[]⟩, [⟨#[49]⟩]⟩ : Nd)], [(⟨1, ⟨#[]⟩, ⟨#[]⟩, ⟨#[]⟩, [⟨#[50]⟩]⟩ : Nd)]].flatten) (by decide) k (by simp; omega)
  have hU := Under_eq ((⟨4, ⟨#[43]⟩, ⟨#[]⟩, ⟨#[]⟩, []⟩ : Nd) :: [[(⟨1, ⟨#[]⟩, ⟨#[]⟩, ⟨#[]⟩, [⟨#[49]⟩]⟩ : Nd)], [(⟨1, ⟨#[]⟩, ⟨#[]⟩, ⟨#[]⟩, [⟨#[50]⟩]⟩ : Nd)]].flatten) (by decide) 0 (by decide) k (by simp; omega)
  have e1 : mayL ((⟨4, ⟨#[43]⟩, ⟨#[]⟩, ⟨#[]⟩, []⟩ : Nd) :: [[(⟨1, ⟨#[]⟩, ⟨#[]⟩, ⟨#[]⟩, [⟨#[49]⟩]⟩ : Nd)], [(⟨1, ⟨#[]⟩, ⟨#[]⟩, ⟨#[]⟩, [⟨#[50]⟩]⟩ : Nd)]].flatten) = true := by decide +kernel
  have e2 : depL kdT ((⟨4, ⟨#[43]⟩, ⟨#[]⟩, ⟨#[]⟩, []⟩ : Nd) :: [[(⟨1, ⟨#[]⟩, ⟨#[]⟩, ⟨#[]⟩, [⟨#[49]⟩]⟩ : Nd)], [(⟨1, ⟨#[]⟩, ⟨#[]⟩, ⟨#[]⟩, [⟨#[50]⟩]⟩ : Nd)]].flatten) = 2 := by decide +kernel
  have e3 : undL ((⟨4, ⟨#[43]⟩, ⟨#[]⟩, ⟨#[]⟩, []⟩ : Nd) :: [[(⟨1, ⟨#[]⟩, ⟨#[]⟩, ⟨#[]⟩, [⟨#[49]⟩]⟩ : Nd)], [(⟨1, ⟨#[]⟩, ⟨#[]⟩, ⟨#[]⟩, [⟨#[50]⟩]⟩ : Nd)]].flatten) 0 = [1, 2] := by decide +kernel
  have e0 : (0 : Int) = ((0 : Nat) : Int) := rfl
  rw [← e0] at hU
  rw [hM, hD, hU, e1, e2, e3]
  obtain ⟨k, rfl⟩ : ∃ j, k = j + 3 := ⟨k - 3, by omega⟩
  simp [reredosref03_Same.f, reredosref03_Same.l0, wrap64, rd, rd_T25]
end Go.Proofs.Ytdelccahgchadaa
end
section
namespace Go.Proofs.Ytdelccahgchadaa
open Go.RowKit Go.Lib Go.Proofs.Ytdelccahgchadaa.P Go.Proofs.YtdelccahgchadaaW.PrintWords Go.Proofs.YtdelccahgchadaaW.PrintMore
set_option linter.unusedVariables false
theorem Few_l1 (x : List Nd) (i : Nat) (hi : i < x.length) (hn : (rd_T25 x (i : Int)).f4.length ≤ 120) : ∀ (m j k : Nat), (rd_T25 x (i : Int)).f4.length - j < m → m ≤ k → j ≤ (rd_T25 x (i : Int)).f4.length → reredosref08_Few.l1 k x (i : Int) (j : Int) = some false ∨ ∃ k', k ≤ k' + m ∧ reredosref08_Few.l1 k x (i : Int) (j : Int) = reredosref08_Few.l0 k' x (wrap64 ((i : Int) + 1)) := by
  intro m
  induction m with
  | zero => intro j k h; omega
  | succ m ih =>
    intro j k h hk hj
    obtain ⟨k, rfl⟩ : ∃ q, k = q + 1 := ⟨k - 1, by omega⟩
    have e : reredosref08_Few.l1 (k + 1) x (i : Int) (j : Int) = if 0 ≤ (i : Int) then (if (i : Int) < (x.length : Int) then (if (j : Int) < (((rd_T25 x (i : Int)).f4).length : Int) then (if 0 ≤ (j : Int) then (if ((rdOf ByteArray.empty ((rd_T25 x (i : Int)).f4) (j : Int)).size : Int) > 120 then (some false) else (reredosref08_Few.l1 k x (i : Int) (wrap64 ((j : Int) + 1)))) else (none)) else (reredosref08_Few.l0 k x (wrap64 ((i : Int) + 1)))) else (none)) else (none) := by rw [reredosref08_Few.l1]
    rw [e, if_pos (by omega), if_pos (by omega)]
    by_cases hlt : (j : Int) < (((rd_T25 x (i : Int)).f4).length : Int)
    · rw [if_pos hlt, if_pos (by omega)]
      by_cases hs : ((rdOf ByteArray.empty ((rd_T25 x (i : Int)).f4) (j : Int)).size : Int) > 120
      · left; rw [if_pos hs]
      · rw [if_neg hs]
        have hi2 := ih (j + 1) k (by omega) (by omega) (by omega)
        have hw : wrap64 ((j : Int) + 1) = ((j + 1 : Nat) : Int) := by rw [wrap_id (by omega) (by omega)]; omega
        rw [hw]
        rcases hi2 with h1 | ⟨k', h1, h2⟩
        · exact .inl h1
        · exact .inr ⟨k', by omega, h2⟩
    · rw [if_neg hlt]
      exact .inr ⟨k, by omega, rfl⟩
theorem Few_l0 (x : List Nd) (hx : x.length ≤ 9223372036854775807) : ∀ (d i k : Nat), 81 - i ≤ d → i ≤ x.length → 200 * d + 200 ≤ k → ∃ b, reredosref08_Few.l0 k x (i : Int) = some b ∧ (b = true → x.length ≤ 80) := by
  intro d
  induction d with
  | zero =>
    intro i k hd hi hk
    obtain ⟨k, rfl⟩ : ∃ q, k = q + 2 := ⟨k - 2, by omega⟩
    have h81 : decide ((i : Int) < 81) = false := decide_eq_false (by omega)
    rw [reredosref08_Few.l0]
    by_cases hlt : (i : Int) < (x.length : Int)
    · rw [if_pos hlt, h81, reredosref08_Few.j1, if_neg (by decide)]
      exact ⟨_, rfl, fun h => by have := of_decide_eq_true h; omega⟩
    · rw [if_neg hlt, reredosref08_Few.j1, if_neg (by decide)]
      exact ⟨_, rfl, fun h => by have := of_decide_eq_true h; omega⟩
  | succ d ih =>
    intro i k hd hi hk
    obtain ⟨k, rfl⟩ : ∃ q, k = q + 3 := ⟨k - 3, by omega⟩
    rw [reredosref08_Few.l0]
    by_cases hlt : (i : Int) < (x.length : Int)
    · rw [if_pos hlt]
      by_cases h81 : (i : Int) < 81
      · rw [decide_eq_true h81, reredosref08_Few.j1, if_pos rfl, if_pos (by omega), if_pos hlt]
        have hj : ∀ b : Bool, (b = false → (rd_T25 x (i : Int)).f4.length ≤ 120) → ∃ r, reredosref08_Few.j2 (k + 1) x (i : Int) b = some r ∧ (r = true → x.length ≤ 80) := by
          intro b hb
          rw [reredosref08_Few.j2]
          cases b with
          | true => exact ⟨false, by rw [if_pos rfl], fun h => by cases h⟩
          | false =>
            rw [if_neg (by decide)]
            have h4 := hb rfl
            have e0 : (0 : Int) = ((0 : Nat) : Int) := rfl
            rcases Few_l1 x i (by omega) h4 121 0 k (by omega) (by omega) (by omega) with h1 | ⟨k', h1, h2⟩
            · rw [e0, h1]; exact ⟨false, rfl, fun h => by cases h⟩
            · have hi2 := ih (i + 1) k' (by omega) (by omega) (by omega)
              have hw : wrap64 ((i : Int) + 1) = ((i + 1 : Nat) : Int) := by rw [wrap_id (by omega) (by omega)]; omega
              rw [e0, h2, hw]
              exact hi2
        by_cases c1 : (((rd_T25 x (i : Int)).f1).size : Int) > 120
        · rw [if_pos c1]; exact hj true (fun h => by cases h)
        rw [if_neg c1]
        by_cases c2 : (((rd_T25 x (i : Int)).f2).size : Int) > 120
        · rw [if_pos c2]; exact hj true (fun h => by cases h)
        rw [if_neg c2]
        by_cases c3 : (((rd_T25 x (i : Int)).f3).size : Int) > 120
        · rw [if_pos c3]; exact hj true (fun h => by cases h)
        rw [if_neg c3]
        exact hj _ (fun h => by have := of_decide_eq_false h; omega)
      · rw [decide_eq_false h81, reredosref08_Few.j1, if_neg (by decide)]
        exact ⟨_, rfl, fun h => by have := of_decide_eq_true h; omega⟩
    · rw [if_neg hlt, reredosref08_Few.j1, if_neg (by decide)]
      exact ⟨_, rfl, fun h => by have := of_decide_eq_true h; omega⟩
theorem Few_eq (x : List Nd) (hx : x.length ≤ 9223372036854775807) (k : Nat) (hk : 17000 ≤ k) : ∃ b, reredosref08_Few.f k x = some b ∧ (b = true → x.length ≤ 80) := by
  unfold reredosref08_Few.f
  have e0 : (0 : Int) = ((0 : Nat) : Int) := rfl
  rw [e0]
  exact Few_l0 x hx 81 0 k (by omega) (by omega) (by omega)
end Go.Proofs.Ytdelccahgchadaa
end
section
namespace Go.Proofs.Ytdelccahgchadaa.Pure
open Go.RowKit Go.Proofs.Ytdelccahgchadaa Go.Proofs.Ytdelccahgchadaa.P Go.Proofs.YtdelccahgchadaaW.PrintWords Go.Proofs.YtdelccahgchadaaW.PrintMore
set_option linter.unusedVariables false
theorem TreeCut : reredoslaw08_TreeCut.Pure := by
  intro l0 a b c d e hl _ _ _ _ _
  obtain ⟨K, hK⟩ : ∃ K : Nat, 20000 < K := ⟨30000, by decide⟩
  obtain ⟨K, rfl⟩ : ∃ j, K = j + 1 := ⟨K - 1, by omega⟩
  refine ⟨K + 1, ?_⟩
  unfold reredoslaw08_TreeCut.f
  have hmx : l0.length ≤ 9223372036854775807 := Nat.le_trans hl.1 (by decide)
  obtain ⟨fw, hf, hf80⟩ := Few_eq l0 hmx (K + 1) (by omega)
  rw [shown08_eq (K + 1) (by omega), hf]
  simp only [Option.bind_some]
  cases fw with
  | false => rw [if_neg (by decide)]; simp only [reredoslaw08_TreeCut.j0]; rw [if_pos trivial]
  | true =>
    have h80 := hf80 rfl
    rw [if_pos rfl, May_eqL l0 (by omega) (K + 1) (by omega)]
    simp only [Option.bind_some, reredoslaw08_TreeCut.j0]
    cases hm : mayL l0 with
    | false => rw [if_neg (by decide), if_pos trivial]
    | true =>
      rw [if_pos rfl]
      by_cases h0 : (l0.length : Int) = 0
      · have : ((l0.length : Int) == 0) = true := by simpa using h0
        rw [this, if_pos rfl]
      · have : ((l0.length : Int) == 0) = false := by simpa using h0
        rw [this, if_neg (by decide)]
        clear this
        obtain ⟨p1, p2, p3⟩ := mayL_parts hm
        obtain ⟨n, hn⟩ : ∃ n, l0.length = n + 1 := ⟨l0.length - 1, by omega⟩
        have hw : wrap64 ((l0.length : Int) - 1) = (n : Int) := by rw [wrap_id (by omega) (by omega)]; omega
        rw [hw]
        clear hw
        rw [Int.toNat_natCast]
        have e0 : (0 : Int) = ((0 : Nat) : Int) := rfl
        have hcut : endW kdT (l0.take n) 1 = none := endW_cut kdT p1 (by omega)
        have hmore : endW kdT (l0 ++ [(⟨a, b, c, d, e⟩ : Nd)]) 1 = some l0.length := endW_append kdT _ p1
        have hE1 := End_eq (l0.take n) (by rw [List.length_take]; omega) 0 (by omega) K (by rw [List.length_take]; omega)
        rw [List.drop_zero, hcut, ← e0] at hE1
        have hE2 := End_eq (l0 ++ [(⟨a, b, c, d, e⟩ : Nd)]) (by rw [List.length_append, List.length_singleton]; omega) 0 (by omega) K (by rw [List.length_append, List.length_singleton]; omega)
        rw [List.drop_zero, hmore, ← e0] at hE2
        have hM1 := May_eqL (l0 ++ [(⟨a, b, c, d, e⟩ : Nd)]) (by rw [List.length_append, List.length_singleton]; omega) K (by rw [List.length_append, List.length_singleton]; omega)
        have hM2 := May_eqL (l0.take n) (by rw [List.length_take]; omega) K (by rw [List.length_take]; omega)
        have m1 : mayL (l0 ++ [(⟨a, b, c, d, e⟩ : Nd)]) = false := by
          unfold mayL
          rw [hmore]
          have : decide (some l0.length = some (l0 ++ [(⟨a, b, c, d, e⟩ : Nd)]).length) = false := decide_eq_false (by rw [List.length_append, List.length_singleton]; intro h; have := Option.some.inj h; omega)
          rw [this]; rfl
        have m2 : mayL (l0.take n) = false := by
          unfold mayL
          rw [hcut]
          rfl
        have hD1 := Depth_eq (l0 ++ [(⟨a, b, c, d, e⟩ : Nd)]) (by rw [List.length_append, List.length_singleton]; omega) K (by rw [List.length_append, List.length_singleton]; omega)
        have hD2 := Depth_eq l0 (by omega) K (by omega)
        rw [depL_append kdT l0 _ p1] at hD1
        rw [m1] at hM1
        rw [m2] at hM2
        have hb1 : ([] : List Nd).length + l0.length < 1759218604441 := Nat.lt_of_le_of_lt (by rw [List.length_nil]; omega : ([] : List Nd).length + l0.length ≤ 80) (by decide)
        have hb2 : l0.length < 1759218604441 := Nat.lt_of_le_of_lt h80 (by decide)
        rw [if_pos (by omega), if_pos (by omega), hE1]
        simp only [Option.bind_some, List.nil_append]
        rw [if_pos hb1, if_pos hb2, hE2]
        simp only [Option.bind_some, outE, hM1, hM2, hD1, hD2]
        simp
end Go.Proofs.Ytdelccahgchadaa.Pure
end
section
namespace Go.Proofs.Ytdelccahgchadaa.treeCut
open Go.ChangeShapes Go.WideShapes Go.ChangeAt Go.RowKit Go.Proofs.YtdelccahgchadaaW.PrintWords Go.Proofs.Ytdelccahgchadaa.P
open Go.ChangeMaps (open_string shut_string)
set_option linter.unusedVariables false
theorem own : ownKnob Try.prog.godebug = none := by kernel_rfl
theorem laidOut : laidOutB Try.prog = true := by kernel_rfl
set_option maxRecDepth 100000 in
theorem lifted (os : Os) (started : os.Started) (H : Type) (enc : TypeId × Value → H) :
    ReturnsInHanded {} Try.checked os 4 .any (Rows.treeCutSpec.pre6 enc Try.prog Try.f4 Rows.treeCutRow.domain false) (Rows.treeCutSpec.post enc Try.prog Try.f4 false true false false) := by
  refine returnsInHanded_of_change_sized (C := Try.checked) own started (by kernel_rfl) Try.func4
    (ChangeSpec.witness6 (enc := enc) (C := Try.checked) false ⟨#[], #[.slice none 0 0, .agg #[.int .i64 0, .string ByteArray.empty, .string ByteArray.empty, .string ByteArray.empty, .slice none 0 0]], []⟩ 8 (by kernel_rfl) (by kernel_rfl) (by kernel_rfl) (by kernel_rfl)) ?_
  intro W base args ds gs before hval0 hW hcnd hsz0 _
  have hsz : (DataW.weightsEach Try.prog (Try.f4.params.toList ++ Rows.treeCutSpec.plain.varTypes Try.prog) (ds ++ gs)).all (· ≤ reachBytes) = true := hsz0
  have hval : ∀ (j : Nat) t v, Try.f4.params[j]? = some t → args[j]? = some v → Value.okWide Try.prog W .any base t v := hval0
  have hW' := hW
  obtain ⟨p, q, hA0, hV, rfl, hfz, hnd⟩ := hW
  have hA : DataW.TrodAll enc Try.prog W 0 (fun _ => true) true Try.f4.params.toList args.toList ds p := hA0
  rw [Try.params4] at hA hval hsz
  obtain ⟨v0, vs0, d0, ds0, p0, q0, hargs, rfl, rfl, h0, r0⟩ := trodAll_cons hA
  obtain ⟨v1, vs1, d1, ds1, p1, q1, rfl, rfl, rfl, h1, r1⟩ := trodAll_cons r0
  obtain ⟨rfl, rfl, rfl⟩ := trodAll_nil r1
  obtain rfl : args = #[v0, v1] := by cases args; simp_all
  obtain ⟨rfl, rfl⟩ := trodVars_none hV
  have k0 := h0
  have lt0 := trod_places h0
  obtain ⟨A0, c0, l0, rfl, hc0, hr0, wf0⟩ := arg_slice Try.underlying22 (opens_slice Try.underlying22 (by kernel_rfl) (opens_iso (fun x : S25 => (x.f0, x.f1, x.f2, x.f3, x.f4)) (fun a => ⟨a.1, a.2.1, a.2.2.1, a.2.2.2.1, a.2.2.2.2⟩) (fun _ => rfl) (opens_struct Try.underlying25 (by kernel_rfl) (opensF_cons (by kernel_rfl) (by kernel_rfl) (opens_int Try.underlying3) (opensF_cons (by kernel_rfl) (by kernel_rfl) (opens_string Try.underlying9) (opensF_cons (by kernel_rfl) (by kernel_rfl) (opens_string Try.underlying9) (opensF_cons (by kernel_rfl) (by kernel_rfl) (opens_string Try.underlying9) (opensF_last (by kernel_rfl) (by kernel_rfl) (opens_slice Try.underlying23 (by kernel_rfl) (opens_string Try.underlying9)))))))))) (hval 0 22 v0 rfl rfl) h0
  have k1 := h1
  have lt1 := trod_places h1
  obtain ⟨a1, cs1, rfl, hk1, wf1⟩ := arg_struct Try.underlying25 (opens_iso (fun x : S25 => (x.f0, x.f1, x.f2, x.f3, x.f4)) (fun a => ⟨a.1, a.2.1, a.2.2.1, a.2.2.2.1, a.2.2.2.2⟩) (fun _ => rfl) (opens_struct Try.underlying25 (by kernel_rfl) (opensF_cons (by kernel_rfl) (by kernel_rfl) (opens_int Try.underlying3) (opensF_cons (by kernel_rfl) (by kernel_rfl) (opens_string Try.underlying9) (opensF_cons (by kernel_rfl) (by kernel_rfl) (opens_string Try.underlying9) (opensF_cons (by kernel_rfl) (by kernel_rfl) (opens_string Try.underlying9) (opensF_last (by kernel_rfl) (by kernel_rfl) (opens_slice Try.underlying23 (by kernel_rfl) (opens_string Try.underlying9))))))))) (hval 1 25 v1 rfl rfl) h1
  obtain ⟨A1_4, c1_4, hcs1, hc1_4, hr1_4⟩ := k25_open hk1
  obtain rfl := of_toList hcs1
  clear hA0 hval0 hsz0 hsz
  obtain ⟨k_, hp_⟩ := Pure.TreeCut l0 (a1.f0) (a1.f1) (a1.f2) (a1.f3) (a1.f4) wf0 (wf1.1) (wf1.2.1) (wf1.2.2.1) (wf1.2.2.2.1) (wf1.2.2.2.2)
  refine (reredoslaw08_TreeCut.calls k_ (fun _ => True) A0 c0 l0 (a1.f0) (a1.f1) (a1.f2) (a1.f3) (fun _ => True) A1_4 c1_4 (a1.f4) true W (Kd.V_mk hc0 (fun W_ h_ => Kd.Heap.C (by repeat (first | exact Kd.heap_string | exact Kd.heap_int _ | exact Kd.heap_bool | apply Kd.heap_iso | apply Kd.heap_pair | apply Kd.heap_slice)) (fun k_ hk_ => h_ k_ trivial hk_) hr0)) (Kd.V_mk hc1_4 (fun W_ h_ => Kd.Heap.C (by repeat (first | exact Kd.heap_string | exact Kd.heap_int _ | exact Kd.heap_bool | apply Kd.heap_iso | apply Kd.heap_pair | apply Kd.heap_slice)) (fun k_ hk_ => h_ k_ trivial hk_) hr1_4)) hp_).mono fun e W' hpost => ?_
  obtain ⟨he, bel0⟩ := hpost
  have bel : Below W.heap.size W W' := by first | exact bel0 | exact bel0.below
  subst he
  exact ⟨_, rfl, _, _, _, [], _, [], hW', trodAll_mk1 (shut_bool Try.underlying4 _), (trodAll_cons_mk (Below.trod laidOut (by kernel_rfl) (of_decide_eq_true (by kernel_rfl)) k0 bel lt0) (trodAll_cons_mk (Below.trod laidOut (by kernel_rfl) (of_decide_eq_true (by kernel_rfl)) k1 bel lt1) trodAll_mk0)), rfl, bel.frame _, fun h => by cases h⟩
theorem over : Rows.treeCutRow.holds Try.pinned (OpenSpec.ofChange Rows.treeCutSpec) :=
  OpenClaim.holds_of_wide 4 Try.f4 rfl rfl rfl rfl rfl rfl rfl ⟨rfl, rfl, rfl, rfl, rfl⟩ rfl rfl rfl rfl rfl (by kernel_rfl) Try.func4 (by kernel_rfl)
    (of_decide_eq_true (by kernel_rfl)) (by unfold Func.isWrapper; first | (rw [if_pos (by decide +kernel)]; kernel_rfl) | (rw [if_neg (by decide +kernel)]; exact ⟨rfl, rfl⟩))
    (fun os started H enc _ => lifted os started H enc)
theorem proved : Rows.TreeCutSaid := over
#print axioms proved
end Go.Proofs.Ytdelccahgchadaa.treeCut
namespace Go.Proofs.Ytdelccahgchadaa
theorem treeCut_holds : Rows.TreeCutSaid := treeCut.proved
end Go.Proofs.Ytdelccahgchadaa
end
