/- The lexer over lists of bytes: what its functions compute, in plain words. -/
import Derived.Test.YtdelccahgchadaaGLex
import Derived.Lib.IndexAny
import Derived.Lib.IndexBytes
namespace Go.Proofs.Ytdelccahgchadaa
open Go.RowKit Go.Lib Go.Proofs.Ytdelccahgchadaa.P Go.Proofs.YtdelccahgchadaaW.PrintWords Go.Proofs.YtdelccahgchadaaW.PrintMore
set_option linter.unusedVariables false
abbrev Bs := List UInt8
/-- The bytes of a text. -/
abbrev L (s : ByteArray) : Bs := s.data.toList
theorem L_size (s : ByteArray) : s.size = (L s).length := by simp
theorem L_append (a b : ByteArray) : L (a ++ b) = L a ++ L b := by simp
theorem L_ext {a b : ByteArray} (h : L a = L b) : a = b := by
  cases a; cases b; congr 1; exact Array.toList_inj.1 h
theorem L_mk (l : Bs) : L ⟨l.toArray⟩ = l := rfl
theorem L_extract (s : ByteArray) (a b : Nat) : L (s.extract a b) = ((L s).drop a).take (b - a) := Lib.extract_data s a b
theorem L_end (s : ByteArray) (a : Nat) : L (s.extract a s.size) = (L s).drop a := Lib.extract_to_end s a
theorem L_bt (s : ByteArray) (i : Nat) (h : i < (L s).length) : bt s (i : Int) = ((L s)[i].toNat : Int) := by
  unfold bt
  rw [dif_pos (by simpa using h)]
  rfl
theorem toList_L (s : ByteArray) : s.toList = L s := Go.ByteArray.toList_eq s
/-- Without one byte ahead. -/
def trimC (c : UInt8) : Bs → Bs
  | [] => []
  | x :: l => if x = c then l else x :: l
theorem trimC_eq (c : UInt8) (l : Bs) : Lib.trimPrefix l [c] = trimC c l := by
  unfold Lib.trimPrefix Lib.hasPrefix
  cases l with
  | nil => rfl
  | cons x l =>
    by_cases h : x = c
    · subst h; simp [trimC]
    · have h2 : ¬ c = x := fun h2 => h h2.symm
      simp [trimC, h, h2]
/-- How many bytes are so. -/
def runL (p : Int → Bool) (l : Bs) : Nat := (l.takeWhile fun c => p (c.toNat : Int)).length
theorem runN_eq (p : Int → Bool) (s : ByteArray) : Ytdelccahgchadaa.P.runN p s = runL p (L s) := rfl
theorem runL_le (p : Int → Bool) (l : Bs) : runL p l ≤ l.length := by
  unfold runL
  exact List.Sublist.length_le (List.takeWhile_sublist _)
theorem runL_cons (p : Int → Bool) (c : UInt8) (l : Bs) : runL p (c :: l) = if p (c.toNat : Int) = true then runL p l + 1 else 0 := by
  unfold runL
  rw [List.takeWhile_cons]
  split <;> simp
theorem runL_append_stop (p : Int → Bool) (l m : Bs) (c : UInt8) (hc : p (c.toNat : Int) = false) : runL p (l ++ c :: m) = runL p l := by
  induction l with
  | nil => rw [List.nil_append, runL_cons, hc]; rfl
  | cons x l ih =>
    rw [List.cons_append, runL_cons, runL_cons, ih]
theorem runL_take (p : Int → Bool) (l : Bs) (n : Nat) (h : runL p l ≤ n) : runL p (l.take n) = runL p l := by
  induction l generalizing n with
  | nil => simp
  | cons x l ih =>
    rw [runL_cons] at h
    rw [runL_cons]
    by_cases hp : p (x.toNat : Int) = true
    · rw [if_pos hp] at h ⊢
      obtain ⟨n, rfl⟩ : ∃ m, n = m + 1 := ⟨n - 1, by omega⟩
      rw [List.take_succ_cons, runL_cons, if_pos hp, ih n (by omega)]
    · rw [if_neg hp]
      cases n with
      | zero => rfl
      | succ n => rw [List.take_succ_cons, runL_cons, if_neg hp]
theorem runL_all (p : Int → Bool) (l : Bs) : runL p l = l.length ↔ l.all (fun c => p (c.toNat : Int)) = true := by
  induction l with
  | nil => simp [runL]
  | cons x l ih =>
    rw [runL_cons, List.all_cons]
    by_cases hp : p (x.toNat : Int) = true
    · rw [if_pos hp, hp, Bool.true_and, ← ih, List.length_cons]; omega
    · rw [if_neg hp]
      have : p (x.toNat : Int) = false := by simpa using hp
      rw [this, Bool.false_and, List.length_cons]
      constructor
      · intro h; omega
      · intro h; cases h
def figs (l : Bs) : Bool := l.all isFig
theorem isFig_isD (c : UInt8) : isFig c = isD (c.toNat : Int) := by
  unfold isFig isD
  rw [Bool.eq_iff_iff]
  simp
  omega
theorem figs_run (l : Bs) : figs l = true ↔ runL isD l = l.length := by
  rw [runL_all]
  unfold figs
  have : isFig = fun c : UInt8 => isD (c.toNat : Int) := funext isFig_isD
  rw [this]
/-- Is it a number? -/
def mayB (l : Bs) : Bool :=
  let f := trimC 45 l
  decide (1 ≤ f.length) && decide (f.length ≤ 100) && (!(f.head? == some 48) || l == [48]) && figs f
/-- A part as a number. -/
def numberL (l : Bs) : Option Bs :=
  let f := trimC 95 l
  let n := if f = l then f else 45 :: f
  if figs f && mayB n then some n else none
/-- A number as a part. -/
def literalL (n : Bs) : Option Bs :=
  if mayB n then (let f := trimC 45 n; if f = n then some n else some (95 :: f)) else none
def signsL : Bs := [43, 45, 42, 37, 33, 38, 124, 60, 62, 61, 126, 44, 35, 94, 36, 63, 64]
def advsL : Bs := [39, 47, 92, 46, 96]
def marksL : Bs := [40, 41, 91, 93, 123, 125, 58]
/-- The kind and the length of the part with which a text begins; 0: there is none. -/
def firstL (l : Bs) : Nat × Nat :=
  match l with
  | [] => (0, 0)
  | c :: _ =>
    if isLow (c.toNat : Int) = true then (2, runL isWordC l)
    else if isUp (c.toNat : Int) = true then (3, runL isVerbC l)
    else if signsL.contains c then (4, 1)
    else if advsL.contains c then (5, 1)
    else if marksL.contains c then (6, 1)
    else let f := trimC 95 l
      let n := l.length - f.length + runL isD f
      if (numberL (l.take n)).isSome then (1, n) else (0, 0)
structure Tk where
  kind : Nat
  text : Bs
  pos : Nat
deriving DecidableEq
/-- A line's parts, from a place on; or where the error is. -/
def lexF : Nat → Nat → Bs → Nat ⊕ List Tk
  | 0, p, _ => .inl p
  | _ + 1, _, [] => .inr []
  | f + 1, p, c :: l =>
    if c = 32 then lexF f (p + 1) l
    else
      let k := (firstL (c :: l)).1
      let n := (firstL (c :: l)).2
      if k = 0 then .inl p
      else match lexF f (p + n) ((c :: l).drop n) with
        | .inl e => .inl e
        | .inr ts => .inr (⟨k, (c :: l).take n, p⟩ :: ts)
theorem trimC_len (c : UInt8) (l : Bs) : (trimC c l).length ≤ l.length ∧ l.length ≤ (trimC c l).length + 1 := by
  cases l with
  | nil => simp [trimC]
  | cons x l =>
    by_cases h : x = c
    · simp [trimC, h]
    · simp [trimC, h]
theorem runL_pos (p : Int → Bool) (c : UInt8) (l : Bs) (h : p (c.toNat : Int) = true) : 1 ≤ runL p (c :: l) := by
  rw [runL_cons, if_pos h]; omega
theorem low_word {c : Int} (h : isLow c = true) : isWordC c = true := by unfold isWordC; rw [h]; rfl
theorem up_verb {c : Int} (h : isUp c = true) : isVerbC c = true := by unfold isVerbC; rw [h]; simp
theorem mayB_ne {l : Bs} (h : mayB l = true) : l ≠ [] := by rintro rfl; revert h; decide
theorem numberL_take_pos {l : Bs} {n : Nat} (h : (numberL (l.take n)).isSome = true) : 1 ≤ n := by
  cases n with
  | zero => rw [List.take_zero] at h; revert h; decide
  | succ n => omega
/-- A part has a byte at least, and lies in the text. -/
theorem firstL_bounds (c : UInt8) (l : Bs) (h : (firstL (c :: l)).1 ≠ 0) : 1 ≤ (firstL (c :: l)).2 ∧ (firstL (c :: l)).2 ≤ (c :: l).length ∧ (firstL (c :: l)).1 ≤ 6 := by
  unfold firstL at h ⊢
  simp only [] at h ⊢
  by_cases h1 : isLow (c.toNat : Int) = true
  · rw [if_pos h1]; exact ⟨runL_pos _ _ _ (low_word h1), runL_le _ _, by simp⟩
  · rw [if_neg h1] at h ⊢
    by_cases h2 : isUp (c.toNat : Int) = true
    · rw [if_pos h2]; exact ⟨runL_pos _ _ _ (up_verb h2), runL_le _ _, by simp⟩
    · rw [if_neg h2] at h ⊢
      by_cases h3 : signsL.contains c = true
      · rw [if_pos h3]; simp
      · rw [if_neg h3] at h ⊢
        by_cases h4 : advsL.contains c = true
        · rw [if_pos h4]; simp
        · rw [if_neg h4] at h ⊢
          by_cases h5 : marksL.contains c = true
          · rw [if_pos h5]; simp
          · rw [if_neg h5] at h ⊢
            by_cases h6 : (numberL ((c :: l).take ((c :: l).length - (trimC 95 (c :: l)).length + runL isD (trimC 95 (c :: l))))).isSome = true
            · rw [if_pos h6]
              have a := trimC_len 95 (c :: l)
              have b := runL_le isD (trimC 95 (c :: l))
              exact ⟨numberL_take_pos h6, by simp only []; omega, by simp⟩
            · rw [if_neg h6] at h; exact absurd rfl h
end Go.Proofs.Ytdelccahgchadaa
