/- The law ParseTells: its row, proved; all that it rests on stands in the texts ahead of it. No conditions. -/
import Derived.Test.YtdelccahgchadaaKParseTells5
import Derived.Test.YtdelccahgchadaaRows
import Derived.ProofKit
import Derived.OpenShut
import Derived.ShutString
import Derived.ChangeOld
import Derived.SizedLaws
set_option linter.unusedVariables false
set_option linter.unusedSimpArgs false
section
namespace Go.Proofs.Ytdelccahgchadaa
open Go.RowKit Go.Lib Go.Proofs.Ytdelccahgchadaa.P Go.Proofs.YtdelccahgchadaaW.PrintWords Go.Proofs.YtdelccahgchadaaW.PrintMore
set_option linter.unusedVariables false
def bigs : Bs := [65, 66, 67, 68, 69, 70, 71, 72, 73, 74, 75, 76, 77, 78, 79, 80, 81, 82, 83, 84, 85, 86, 87, 88, 89, 90]
def lows : Bs := [97, 98, 99, 100, 101, 102, 103, 104, 105, 106, 107, 108, 109, 110, 111, 112, 113, 114, 115, 116, 117, 118, 119, 120, 121, 122]
def digs : Bs := [48, 49, 50, 51, 52, 53, 54, 55, 56, 57]
theorem by_byte (p : UInt8 → Bool) (h : ∀ n : Fin 256, p (UInt8.ofNat n.val) = true) (c : UInt8) : p c = true := by
 have := h ⟨c.toNat, c.toNat_lt⟩
 rw [UInt8.ofNat_toNat] at this
 exact this
theorem lows_eq (c : UInt8) : lows.contains c = isLow (c.toNat : Int) := by
 have := by_byte (fun c => lows.contains c == isLow (c.toNat : Int)) (by decide +kernel) c
 exact eq_of_beq this
theorem bigs_eq (c : UInt8) : bigs.contains c = isUp (c.toNat : Int) := by
 have := by_byte (fun c => bigs.contains c == isUp (c.toNat : Int)) (by decide +kernel) c
 exact eq_of_beq this
theorem digs_eq (c : UInt8) : digs.contains c = isD (c.toNat : Int) := by
 have := by_byte (fun c => digs.contains c == isD (c.toNat : Int)) (by decide +kernel) c
 exact eq_of_beq this
theorem words_eq (c : UInt8) : (lows ++ digs).contains c = isWordC (c.toNat : Int) := by
 have := by_byte (fun c => (lows ++ digs).contains c == isWordC (c.toNat : Int)) (by decide +kernel) c
 exact eq_of_beq this
theorem verbs_eq (c : UInt8) : (bigs ++ (lows ++ digs)).contains c = isVerbC (c.toNat : Int) := by
 have := by_byte (fun c => (bigs ++ (lows ++ digs)).contains c == isVerbC (c.toNat : Int)) (by decide +kernel) c
 exact eq_of_beq this
theorem kind_bt (s : ByteArray) (c : UInt8) (r : Bs) (hcr : L s = c :: r) : bt s 0 = (c.toNat : Int) := by
 have h1 := L_bt s 0 (by rw [hcr]; simp)
 have h2 : (L s)[0]'(by rw [hcr]; simp) = c := by simp [hcr]
 rw [h2] at h1
 exact h1
theorem has_at (s : ByteArray) (c : UInt8) (r : Bs) (hcr : L s = c :: r) (hs : (L s).length ≤ 9223372036854775807) (t : ByteArray) (ht : (L t).length ≤ 9223372036854775807) : Ev (fun k => reredosref07_has.f k t (bt s 0)) ((L t).contains c) := by
 rw [kind_bt s c r hcr]
 exact has_eq t c ht
theorem all_at (s : ByteArray) (c : UInt8) (r : Bs) (hcr : L s = c :: r) (hs : (L s).length ≤ 9223372036854775807) (t : ByteArray) (ht : (L t).length ≤ 9223372036854775807) : Ev (fun k => reredosref07_all.f k s 1 t) (r.all fun d => (L t).contains d) := by
 have := all_eq s t hs ht 1 (by rw [hcr]; simp)
 rw [show (L s).drop 1 = r by rw [hcr]; rfl] at this
 exact this
theorem kind_j4 (s : ByteArray) (c : UInt8) (r : Bs) (hcr : L s = c :: r) (hs : (L s).length ≤ 9223372036854775807) (b : Bool) : Ev (fun k => reredosref07_kind.j4 k s b) (if b = true then 6 else if (c = 95 ∨ isD (c.toNat : Int) = true) ∧ (r.all fun d => isD (d.toNat : Int)) = true then 1 else 0) := by
 have hsz : 0 < (s.size : Int) := by rw [L_size, hcr, List.length_cons]; omega
 have hd : (fun d : UInt8 => (L (⟨#[48, 49, 50, 51, 52, 53, 54, 55, 56, 57]⟩ : ByteArray)).contains d) = fun d => isD (d.toNat : Int) := funext digs_eq
 have h1 := has_at s c r hcr hs (⟨#[48, 49, 50, 51, 52, 53, 54, 55, 56, 57]⟩ : ByteArray) (by decide)
 have h2 := all_at s c r hcr hs (⟨#[48, 49, 50, 51, 52, 53, 54, 55, 56, 57]⟩ : ByteArray) (by decide)
 rw [show (L (⟨#[48, 49, 50, 51, 52, 53, 54, 55, 56, 57]⟩ : ByteArray)).contains c = isD (c.toNat : Int) from digs_eq c] at h1
 rw [hd] at h2
 have hend : Ev (fun k => (reredosref07_all.f k s 1 (⟨#[48, 49, 50, 51, 52, 53, 54, 55, 56, 57]⟩ : ByteArray)).bind fun t => (if t = true then some (1 : Int) else some 0)) (if (r.all fun d => isD (d.toNat : Int)) = true then 1 else 0) := by
  refine Ev.bind h2 ?_
  by_cases h : (r.all fun d => isD (d.toNat : Int)) = true
  ·rw [if_pos h, h]; exact Ev.now _
  ·rw [if_neg h, (by simpa using h : (r.all fun d => isD (d.toNat : Int)) = false)]; exact Ev.now _
 cases b with
 | true => exact Ev.step (f := fun _ => some 6) (fun k => by show reredosref07_kind.j4 (k + 1) s true = _; rw [reredosref07_kind.j4, if_pos rfl]) (Ev.now _)
 | false =>
  rw [if_neg (by decide)]
  by_cases h95 : c = 95
  ·refine Ev.step (f := fun k => (reredosref07_all.f k s 1 (⟨#[48, 49, 50, 51, 52, 53, 54, 55, 56, 57]⟩ : ByteArray)).bind fun t => (if t = true then some (1 : Int) else some 0)) (fun k => ?_) ?_
   ·show reredosref07_kind.j4 (k + 1) s false = _
    rw [reredosref07_kind.j4, if_neg (by decide), if_pos hsz, if_pos (by rw [kind_bt s c r hcr, h95]; rfl)]
   ·simp only [h95, true_or, true_and]; exact hend
  ·have hb : ¬ bt s 0 = 95 := by rw [kind_bt s c r hcr]; exact fun h => h95 ((byte_iff c 95).1 h)
   refine Ev.step (f := fun k => (reredosref07_has.f k (⟨#[48, 49, 50, 51, 52, 53, 54, 55, 56, 57]⟩ : ByteArray) (bt s 0)).bind fun t283 => (if t283 = true then ((reredosref07_all.f k s 1 (⟨#[48, 49, 50, 51, 52, 53, 54, 55, 56, 57]⟩ : ByteArray)).bind fun t284 => (if t284 = true then (some 1) else (some 0))) else (some 0))) (fun k => ?_) (Ev.bind h1 ?_)
   ·show reredosref07_kind.j4 (k + 1) s false = _
    rw [reredosref07_kind.j4, if_neg (by decide), if_pos hsz, if_neg hb]
   ·cases hD : isD (c.toNat : Int) with
    | true => simp only [or_true, true_and, if_true]; exact hend
    | false => simp only [h95, Bool.false_eq_true, or_false, false_and, if_false]; exact Ev.now _
theorem kind_one (s : ByteArray) (c : UInt8) (r : Bs) (hcr : L s = c :: r) (hs : (L s).length ≤ 9223372036854775807) (t : ByteArray) (ht : (L t).length ≤ 9223372036854775807) (g : Nat → Bool → Option Int) (G : Bool → Int) (hG : ∀ b, Ev (fun k => g k b) (G b)) : Ev (fun k => if (s.size : Int) = 1 then (if 0 < (s.size : Int) then ((reredosref07_has.f k t (bt s 0)).bind fun t279 => (g k t279)) else (none)) else (g k false)) (if r = [] ∧ (L t).contains c = true then G true else G false) := by
 have hlen : s.size = r.length + 1 := by rw [L_size, hcr, List.length_cons]
 by_cases h : r = []
 ·have h1 : (s.size : Int) = 1 := by rw [hlen, h]; rfl
  refine Ev.congr (f := fun k => (reredosref07_has.f k t (bt s 0)).bind fun t279 => g k t279) (fun k => by rw [if_pos h1, if_pos (by omega)]) (Ev.bind (has_at s c r hcr hs t ht) ?_)
  cases (L t).contains c with
  | true => rw [if_pos ⟨h, rfl⟩]; exact hG true
  | false => rw [if_neg (fun hh => by cases hh.2)]; exact hG false
 ·have h1 : ¬ (s.size : Int) = 1 := by
   intro hh
   exact h (List.length_eq_zero_iff.1 (by omega))
  refine Ev.congr (f := fun k => g k false) (fun k => by rw [if_neg h1]) ?_
  rw [if_neg (fun hh => h hh.1)]
  exact hG false
theorem kind_j3 (s : ByteArray) (c : UInt8) (r : Bs) (hcr : L s = c :: r) (hs : (L s).length ≤ 9223372036854775807) (b : Bool) : Ev (fun k => reredosref07_kind.j3 k s b) (if b = true then 5 else if r = [] ∧ marksL.contains c = true then 6 else if (c = 95 ∨ isD (c.toNat : Int) = true) ∧ (r.all fun d => isD (d.toNat : Int)) = true then 1 else 0) := by
 cases b with
 | true => exact Ev.step (f := fun _ => some 5) (fun k => by show reredosref07_kind.j3 (k + 1) s true = _; rw [reredosref07_kind.j3, if_pos rfl]) (Ev.now _)
 | false => exact Ev.step (fun k => by show reredosref07_kind.j3 (k + 1) s false = _; rw [reredosref07_kind.j3, if_neg (by decide)]) (kind_one s c r hcr hs (⟨#[40, 41, 91, 93, 123, 125, 58]⟩ : ByteArray) (by decide) (fun k b => reredosref07_kind.j4 k s b) _ (kind_j4 s c r hcr hs))
theorem kind_j2 (s : ByteArray) (c : UInt8) (r : Bs) (hcr : L s = c :: r) (hs : (L s).length ≤ 9223372036854775807) (b : Bool) : Ev (fun k => reredosref07_kind.j2 k s b) (if b = true then 4 else if r = [] ∧ advsL.contains c = true then 5 else if r = [] ∧ marksL.contains c = true then 6 else if (c = 95 ∨ isD (c.toNat : Int) = true) ∧ (r.all fun d => isD (d.toNat : Int)) = true then 1 else 0) := by
 cases b with
 | true => exact Ev.step (f := fun _ => some 4) (fun k => by show reredosref07_kind.j2 (k + 1) s true = _; rw [reredosref07_kind.j2, if_pos rfl]) (Ev.now _)
 | false => exact Ev.step (fun k => by show reredosref07_kind.j2 (k + 1) s false = _; rw [reredosref07_kind.j2, if_neg (by decide)]) (kind_one s c r hcr hs (⟨#[39, 47, 92, 46, 96]⟩ : ByteArray) (by decide) (fun k b => reredosref07_kind.j3 k s b) _ (kind_j3 s c r hcr hs))
theorem kind_j1 (s : ByteArray) (c : UInt8) (r : Bs) (hcr : L s = c :: r) (hs : (L s).length ≤ 9223372036854775807) (b : Bool) : Ev (fun k => reredosref07_kind.j1 k s b) (if b = true then 3 else if r = [] ∧ signsL.contains c = true then 4 else if r = [] ∧ advsL.contains c = true then 5 else if r = [] ∧ marksL.contains c = true then 6 else if (c = 95 ∨ isD (c.toNat : Int) = true) ∧ (r.all fun d => isD (d.toNat : Int)) = true then 1 else 0) := by
 cases b with
 | true => exact Ev.step (f := fun _ => some 3) (fun k => by show reredosref07_kind.j1 (k + 1) s true = _; rw [reredosref07_kind.j1, if_pos rfl]) (Ev.now _)
 | false => exact Ev.step (fun k => by show reredosref07_kind.j1 (k + 1) s false = _; rw [reredosref07_kind.j1, if_neg (by decide)]) (kind_one s c r hcr hs (⟨#[43, 45, 42, 37, 33, 38, 124, 60, 62, 61, 126, 44, 35, 94, 36, 63, 64]⟩ : ByteArray) (by decide) (fun k b => reredosref07_kind.j2 k s b) _ (kind_j2 s c r hcr hs))
theorem kind_two (s : ByteArray) (c : UInt8) (r : Bs) (hcr : L s = c :: r) (hs : (L s).length ≤ 9223372036854775807) (t u : ByteArray) (ht : (L t).length ≤ 9223372036854775807) (hu : (L u).length ≤ 9223372036854775807) (g : Nat → Bool → Option Int) (G : Bool → Int) (hG : ∀ b, Ev (fun k => g k b) (G b)) : Ev (fun k => if 0 < (s.size : Int) then ((reredosref07_has.f k t (bt s 0)).bind fun t275 => (if t275 = true then ((reredosref07_all.f k s 1 u).bind fun t276 => (g k t276)) else (g k false))) else (none)) (if (L t).contains c = true ∧ (r.all fun d => (L u).contains d) = true then G true else G false) := by
 have hsz : 0 < (s.size : Int) := by rw [L_size, hcr, List.length_cons]; omega
 refine Ev.congr (fun k => by rw [if_pos hsz]) (Ev.bind (has_at s c r hcr hs t ht) ?_)
 cases (L t).contains c with
 | false => rw [if_neg (fun hh => by cases hh.1)]; simp only [Bool.false_eq_true, if_false]; exact hG false
 | true =>
  simp only [if_true, true_and]
  refine Ev.bind (all_at s c r hcr hs u hu) ?_
  cases (r.all fun d => (L u).contains d) with
  | true => rw [if_pos rfl]; exact hG true
  | false => rw [if_neg (by decide)]; exact hG false
theorem kind_j0 (s : ByteArray) (c : UInt8) (r : Bs) (hcr : L s = c :: r) (hs : (L s).length ≤ 9223372036854775807) (b : Bool) : Ev (fun k => reredosref07_kind.j0 k s b) (if b = true then 2 else if isUp (c.toNat : Int) = true ∧ (r.all fun d => isVerbC (d.toNat : Int)) = true then 3 else if r = [] ∧ signsL.contains c = true then 4 else if r = [] ∧ advsL.contains c = true then 5 else if r = [] ∧ marksL.contains c = true then 6 else if (c = 95 ∨ isD (c.toNat : Int) = true) ∧ (r.all fun d => isD (d.toNat : Int)) = true then 1 else 0) := by
 cases b with
 | true => exact Ev.step (f := fun _ => some 2) (fun k => by show reredosref07_kind.j0 (k + 1) s true = _; rw [reredosref07_kind.j0, if_pos rfl]) (Ev.now _)
 | false =>
  have := kind_two s c r hcr hs (⟨#[65, 66, 67, 68, 69, 70, 71, 72, 73, 74, 75, 76, 77, 78, 79, 80, 81, 82, 83, 84, 85, 86, 87, 88, 89, 90]⟩ : ByteArray) (⟨#[65, 66, 67, 68, 69, 70, 71, 72, 73, 74, 75, 76, 77, 78, 79, 80, 81, 82, 83, 84, 85, 86, 87, 88, 89, 90, 97, 98, 99, 100, 101, 102, 103, 104, 105, 106, 107, 108, 109, 110, 111, 112, 113, 114, 115, 116, 117, 118, 119, 120, 121, 122, 48, 49, 50, 51, 52, 53, 54, 55, 56, 57]⟩ : ByteArray) (by decide) (by decide) (fun k b => reredosref07_kind.j1 k s b) _ (kind_j1 s c r hcr hs)
  rw [show (L (⟨#[65, 66, 67, 68, 69, 70, 71, 72, 73, 74, 75, 76, 77, 78, 79, 80, 81, 82, 83, 84, 85, 86, 87, 88, 89, 90]⟩ : ByteArray)).contains c = isUp (c.toNat : Int) from bigs_eq c] at this
  rw [show (fun d : UInt8 => (L (⟨#[65, 66, 67, 68, 69, 70, 71, 72, 73, 74, 75, 76, 77, 78, 79, 80, 81, 82, 83, 84, 85, 86, 87, 88, 89, 90, 97, 98, 99, 100, 101, 102, 103, 104, 105, 106, 107, 108, 109, 110, 111, 112, 113, 114, 115, 116, 117, 118, 119, 120, 121, 122, 48, 49, 50, 51, 52, 53, 54, 55, 56, 57]⟩ : ByteArray)).contains d) = fun d => isVerbC (d.toNat : Int) from funext verbs_eq] at this
  exact Ev.step (fun k => by show reredosref07_kind.j0 (k + 1) s false = _; rw [reredosref07_kind.j0, if_neg (by decide)]) this
theorem kind_eq (s : ByteArray) (hs : (L s).length ≤ 9223372036854775807) : Ev (fun k => reredosref07_kind.f k s) ((kindL (L s) : Nat) : Int) := by
 have hl : s.toList = L s := toList_L s
 cases hcr : L s with
 | nil => exact Ev.congr (f := fun _ => some 0) (fun k => by unfold reredosref07_kind.f; rw [if_pos (by rw [hl, hcr])]) (Ev.now _)
 | cons c r =>
  have := kind_two s c r hcr hs (⟨#[97, 98, 99, 100, 101, 102, 103, 104, 105, 106, 107, 108, 109, 110, 111, 112, 113, 114, 115, 116, 117, 118, 119, 120, 121, 122]⟩ : ByteArray) (⟨#[97, 98, 99, 100, 101, 102, 103, 104, 105, 106, 107, 108, 109, 110, 111, 112, 113, 114, 115, 116, 117, 118, 119, 120, 121, 122, 48, 49, 50, 51, 52, 53, 54, 55, 56, 57]⟩ : ByteArray) (by decide) (by decide) (fun k b => reredosref07_kind.j0 k s b) _ (kind_j0 s c r hcr hs)
  rw [show (L (⟨#[97, 98, 99, 100, 101, 102, 103, 104, 105, 106, 107, 108, 109, 110, 111, 112, 113, 114, 115, 116, 117, 118, 119, 120, 121, 122]⟩ : ByteArray)).contains c = isLow (c.toNat : Int) from lows_eq c] at this
  rw [show (fun d : UInt8 => (L (⟨#[97, 98, 99, 100, 101, 102, 103, 104, 105, 106, 107, 108, 109, 110, 111, 112, 113, 114, 115, 116, 117, 118, 119, 120, 121, 122, 48, 49, 50, 51, 52, 53, 54, 55, 56, 57]⟩ : ByteArray)).contains d) = fun d => isWordC (d.toNat : Int) from funext words_eq] at this
  have hk : ((kindL (c :: r) : Nat) : Int) = (if isLow (c.toNat : Int) = true ∧ (r.all fun d => isWordC (d.toNat : Int)) = true then 2 else if isUp (c.toNat : Int) = true ∧ (r.all fun d => isVerbC (d.toNat : Int)) = true then 3 else if r = [] ∧ signsL.contains c = true then 4 else if r = [] ∧ advsL.contains c = true then 5 else if r = [] ∧ marksL.contains c = true then 6 else if (c = 95 ∨ isD (c.toNat : Int) = true) ∧ (r.all fun d => isD (d.toNat : Int)) = true then 1 else 0) := by
   simp only [kindL]
   repeat' split
   all_goals rfl
  rw [hk]
  simp only [if_true, Bool.false_eq_true, if_false] at this
  exact Ev.congr (fun k => by unfold reredosref07_kind.f; rw [if_neg (by rw [hl, hcr]; simp)]) this
theorem number_iff (l : Bs) (c : UInt8) (r : Bs) (h : l = c :: r) : numberL l = (if c = 45 then none else if mayB (if c = 95 then 45 :: r else l) = true then some (if c = 95 then 45 :: r else l) else none) := by
 unfold numberL
 subst h
 by_cases h95 : c = 95
 ·subst h95
  have e1 : trimC 95 ((95 : UInt8) :: r) = r := by simp [trimC]
  simp only [e1]
  rw [if_neg (fun h : r = 95 :: r => by have := congrArg List.length h; rw [List.length_cons] at this; omega), if_neg (show ¬ (95 : UInt8) = 45 by decide), if_pos (show True from trivial)]
  by_cases hm : mayB ((45 : UInt8) :: r) = true
  ·rw [if_pos hm]
   have : figs r = true := by
    have hm2 := hm
    simp only [mayB, Bool.and_eq_true] at hm2
    have h2 := hm2.2
    have e2 : trimC 45 ((45 : UInt8) :: r) = r := by simp [trimC]
    rw [e2] at h2
    exact h2
   rw [if_pos (by rw [this, hm]; rfl)]
  ·rw [if_neg hm, if_neg (by rw [Bool.and_eq_true]; exact fun h => hm h.2)]
 ·have e1 : trimC 95 (c :: r) = c :: r := by simp [trimC, h95]
  simp only [e1]
  rw [if_pos trivial, if_neg h95]
  by_cases h45 : c = 45
  ·subst h45
   rw [if_pos rfl, if_neg]
   rw [Bool.and_eq_true]
   rintro ⟨h, _⟩
   have : isFig 45 = true := by
    unfold figs at h
    rw [List.all_cons, Bool.and_eq_true] at h
    exact h.1
   revert this; decide
  ·rw [if_neg h45]
   by_cases hm : mayB (c :: r) = true
   ·have : figs (c :: r) = true := by
     have hm2 := hm
     simp only [mayB, Bool.and_eq_true] at hm2
     have h2 := hm2.2
     have e2 : trimC 45 (c :: r) = c :: r := by simp [trimC, h45]
     rw [e2] at h2
     exact h2
    rw [if_pos hm, if_pos (by rw [this, hm]; rfl)]
   ·rw [if_neg hm, if_neg (by rw [Bool.and_eq_true]; exact fun h => hm h.2)]
theorem RNumber_eq (s : ByteArray) (hs : (L s).length ≤ 140737488351232) : Ev (fun k => reredosref07_Number.f k s) (outN (numberL (L s))) := by
 have hl : s.toList = L s := toList_L s
 have hmay : ∀ (t : ByteArray), (L t).length ≤ 140737488351232 → Ev (fun k => (reredosref01_May.f k t).bind fun b => (if b = true then some (t, true) else some ((⟨#[]⟩ : ByteArray), false))) (outN (if mayB (L t) = true then some (L t) else none)) := by
  intro t ht
  refine Ev.bind (RMay_eq t (by omega)) ?_
  cases mayB (L t) with
  | true => simp only [if_true, outN]; rw [mkB_L]; exact Ev.now _
  | false => simp only [Bool.false_eq_true, if_false, outN]; exact Ev.now _
 cases hcr : L s with
 | nil =>
  have : outN (numberL []) = outN (if mayB (L s) = true then some (L s) else none) := by rw [hcr]; decide
  rw [this]
  refine Ev.congr (fun k => ?_) (Ev.step (g := fun k => reredosref07_Number.j0 k s s false) (fun k => ?_) (hmay s hs))
  ·unfold reredosref07_Number.f
   rw [if_pos (by rw [hl, hcr])]
  ·show reredosref07_Number.j0 (k + 1) s s false = _
   rw [reredosref07_Number.j0, if_neg (by decide), if_pos (by rw [hl, hcr])]
 | cons c r =>
  have hb := kind_bt s c r hcr
  have hsz : 0 < (s.size : Int) := by rw [L_size, hcr, List.length_cons]; omega
  have hne : ¬ s.toList = ([] : List UInt8) := by rw [hl, hcr]; simp
  have hf : ∀ k, reredosref07_Number.f k s = reredosref07_Number.j0 k s s (c == 95) := by
   intro k
   unfold reredosref07_Number.f
   have : ((bt s 0) == 95) = (c == 95) := by
    rw [hb, Bool.eq_iff_iff, beq_iff_eq, beq_iff_eq]
    exact byte_iff c 95
   rw [if_neg hne, if_pos hsz, this]
  rw [← hcr, number_iff (L s) c r hcr]
  refine Ev.congr hf ?_
  have h45 : bt s 0 = 45 ↔ c = 45 := by rw [hb]; exact byte_iff c 45
  by_cases h95 : c = 95
  ·subst h95
   have hx : L ((⟨#[45]⟩ : ByteArray) ++ (s.extract 1 s.size)) = 45 :: r := by
    rw [L_append, L_end, hcr]; rfl
   have hlr : r.length + 1 = (L s).length := by rw [hcr, List.length_cons]
   have hsx : (s.extract 1 s.size).size = r.length := by rw [L_size, L_end, hcr]; rfl
   have hm := hmay ((⟨#[45]⟩ : ByteArray) ++ (s.extract 1 s.size)) (by rw [hx, List.length_cons]; omega)
   rw [hx] at hm
   rw [if_neg (by decide), if_pos rfl]
   refine Ev.step (fun k => ?_) hm
   show reredosref07_Number.j0 (k + 1) s s ((95 : UInt8) == 95) = _
   rw [reredosref07_Number.j0, if_pos (by decide), if_pos (by omega), if_pos (by rw [hsx]; omega), if_neg hne, if_pos hsz, if_neg (by rw [h45]; decide)]
  ·have hb95 : (c == 95) = false := by rw [beq_eq_false_iff_ne]; exact h95
   rw [if_neg h95, hb95]
   by_cases hc45 : c = 45
   ·rw [if_pos hc45]
    refine Ev.step (f := fun _ => some ((⟨#[]⟩ : ByteArray), false)) (fun k => ?_) (Ev.now _)
    show reredosref07_Number.j0 (k + 1) s s false = _
    rw [reredosref07_Number.j0, if_neg (by decide), if_neg hne, if_pos hsz, if_pos (h45.2 hc45)]
   ·rw [if_neg hc45]
    refine Ev.step (fun k => ?_) (hmay s hs)
    show reredosref07_Number.j0 (k + 1) s s false = _
    rw [reredosref07_Number.j0, if_neg (by decide), if_neg hne, if_pos hsz, if_neg (fun h => hc45 (h45.1 h))]
end Go.Proofs.Ytdelccahgchadaa
end
section
namespace Go.Proofs.Ytdelccahgchadaa
open Go.RowKit Go.Lib Go.Proofs.Ytdelccahgchadaa.P Go.Proofs.YtdelccahgchadaaW.PrintWords Go.Proofs.YtdelccahgchadaaW.PrintMore
set_option linter.unusedVariables false
def EvB {α : Type} (B : Nat) (g : Nat → Option α) (r : α) : Prop := ∀ k, B ≤ k → g k = some r
theorem EvB.now {α : Type} (r : α) : EvB 0 (fun _ => some r) r := fun _ _ => rfl
theorem EvB.step {α : Type} {B : Nat} {f g : Nat → Option α} {r : α} (h : ∀ k, g (k + 1) = f k) (h2 : EvB B f r) : EvB (B + 1) g r := by
 intro k hk
 obtain ⟨k, rfl⟩ : ∃ j, k = j + 1 := ⟨k - 1, by omega⟩
 rw [h, h2 k (by omega)]
theorem EvB.congr {α : Type} {B : Nat} {f g : Nat → Option α} {r : α} (h : ∀ k, g k = f k) (h2 : EvB B f r) : EvB B g r := fun k hk => by rw [h, h2 k hk]
theorem EvB.le {α : Type} {B B' : Nat} {g : Nat → Option α} {r : α} (h : EvB B g r) (hle : B ≤ B') : EvB B' g r := fun k hk => h k (Nat.le_trans hle hk)
theorem EvB.bind {α β : Type} {B : Nat} {f : Nat → Option α} {a : α} {g : Nat → α → Option β} {r : β} (h : EvB B f a) (h2 : EvB B (fun k => g k a) r) : EvB B (fun k => (f k).bind fun x => g k x) r := by
 intro k hk
 have := h2 k hk
 simp only [h k hk, Option.bind_some]
 exact this
theorem BMay_l0 (s : ByteArray) (hs : (L s).length ≤ 9223372036854775807) : ∀ (m i : Nat), (L s).length - i < m → i ≤ (L s).length → EvB ((L s).length - i + 1) (fun k => reredosref01_May.l0 k s (i : Int)) (figs ((L s).drop i)) := by
 intro m
 induction m with
 | zero => intro i h; omega
 | succ m ih =>
  intro i h hi
  by_cases hlt : i < (L s).length
  ·have hbt := L_bt s i hlt
   rw [figs_drop hlt]
   have hf : isFig (L s)[i] = true ↔ 48 ≤ ((L s)[i].toNat : Int) ∧ ((L s)[i].toNat : Int) ≤ 57 := by
    unfold isFig
    rw [Bool.and_eq_true, decide_eq_true_eq, decide_eq_true_eq]
    omega
   by_cases h1 : bt s (i : Int) < 48
   ·have : isFig (L s)[i] = false := by rw [← Bool.not_eq_true, hf]; omega
    rw [this]
    refine EvB.le (EvB.step (f := fun _ => some false) (fun k => ?_) (EvB.now _)) (by omega)
    rw [reredosref01_May.l0, if_pos (by rw [L_size]; omega), if_pos (by omega), if_pos h1]
   ·by_cases h2 : bt s (i : Int) > 57
    ·have : isFig (L s)[i] = false := by rw [← Bool.not_eq_true, hf]; omega
     rw [this]
     refine EvB.le (EvB.step (f := fun _ => some false) (fun k => ?_) (EvB.now _)) (by omega)
     rw [reredosref01_May.l0, if_pos (by rw [L_size]; omega), if_pos (by omega), if_neg h1, if_pos h2]
    ·have : isFig (L s)[i] = true := by rw [hf]; omega
     rw [this, Bool.true_and]
     refine EvB.le (EvB.step (fun k => ?_) (ih (i + 1) (by omega) (by omega))) (by omega)
     rw [reredosref01_May.l0, if_pos (by rw [L_size]; omega), if_pos (by omega), if_neg h1, if_neg h2, succ_w' (by omega)]
  ·rw [List.drop_eq_nil_of_le (by omega)]
   refine EvB.le (EvB.step (f := fun _ => some true) (fun k => ?_) (EvB.now _)) (by omega)
   rw [reredosref01_May.l0, if_neg (by rw [L_size]; omega)]
theorem BMay_j1 (s : ByteArray) (hs : (L s).length ≤ 9223372036854775807) (i : Nat) (hi : i ≤ (L s).length) : EvB ((L s).length + 4) (fun k => reredosref01_May.j1 k s (i : Int)) (decide (1 ≤ ((L s).drop i).length) && decide (((L s).drop i).length ≤ 100) && !(((L s).drop i).head? == some 48) && figs ((L s).drop i)) := by
 have hw : wrap64 ((s.size : Int) - (i : Int)) = (((L s).length - i : Nat) : Int) := by rw [L_size, wrap_id (by omega) (by omega)]; omega
 have hj : ∀ b r, (b = true → r = false) → (b = false → r = figs ((L s).drop i)) → EvB ((L s).length + 3) (fun k => reredosref01_May.j2 k s (i : Int) b) r := by
  intro b r h1 h2
  cases b with
  | true =>
   rw [h1 rfl]
   exact EvB.le (EvB.step (f := fun _ => some false) (fun k => by show reredosref01_May.j2 (k + 1) s (i : Int) true = _; rw [reredosref01_May.j2, if_pos rfl]) (EvB.now _)) (by omega)
  | false =>
   rw [h2 rfl]
   exact EvB.le (EvB.step (fun k => by show reredosref01_May.j2 (k + 1) s (i : Int) false = reredosref01_May.l0 k s (i : Int); rw [reredosref01_May.j2, if_neg (by decide)]) (BMay_l0 s hs ((L s).length - i + 1) i (by omega) hi)) (by omega)
 rw [List.length_drop]
 by_cases h1 : (L s).length - i < 1
 ·rw [decide_eq_false (by omega)]
  refine EvB.step (fun k => ?_) (hj true false (fun _ => rfl) (fun h => (by cases h)))
  rw [reredosref01_May.j1, hw]
  clear hw
  rw [if_pos (by omega)]
 ·by_cases h2 : (L s).length - i > 100
  ·rw [decide_eq_true (by omega), decide_eq_false (by omega)]
   refine EvB.step (fun k => ?_) (hj true false (fun _ => rfl) (fun h => (by cases h)))
   rw [reredosref01_May.j1, hw]
   clear hw
   rw [if_neg (by omega), if_pos (by omega)]
  ·have hlt : i < (L s).length := by omega
   have hbt := L_bt s i hlt
   rw [decide_eq_true (by omega), decide_eq_true (by omega)]
   have hh : ((L s).drop i).head? = some (L s)[i] := by rw [List.drop_eq_getElem_cons hlt]; rfl
   rw [hh]
   have he : ((bt s (i : Int)) == 48) = (some (L s)[i] == some 48) := by
    rw [hbt, Bool.eq_iff_iff]
    rw [beq_iff_eq, beq_iff_eq, Option.some.injEq]
    exact byte_iff (L s)[i] 48
   refine EvB.step (f := fun k => reredosref01_May.j2 k s (i : Int) (some (L s)[i] == some 48)) (fun k => ?_) (hj (some (L s)[i] == some 48) (true && true && !(some (L s)[i] == some 48) && figs ((L s).drop i)) (fun h => by rw [h]; rfl) (fun h => by rw [h]; rfl))
   rw [reredosref01_May.j1, hw]
   clear hw
   rw [if_neg (by omega), if_neg (by omega), if_pos (by omega), if_pos (by rw [L_size]; omega), he]
theorem BMay_eq (s : ByteArray) (hs : (L s).length ≤ 9223372036854775807) : EvB ((L s).length + 5) (fun k => reredosref01_May.f k s) (mayB (L s)) := by
 have hl : s.toList = L s := toList_L s
 by_cases h0 : L s = [48]
 ·have : mayB (L s) = true := by rw [h0]; decide
  rw [this]
  refine EvB.le (EvB.congr (f := fun _ => some true) (fun k => ?_) (EvB.now _)) (by omega)
  unfold reredosref01_May.f
  rw [if_pos (by rw [hl]; exact h0)]
 ·have hm : mayB (L s) = (decide (1 ≤ (trimC 45 (L s)).length) && decide ((trimC 45 (L s)).length ≤ 100) && !((trimC 45 (L s)).head? == some 48) && figs (trimC 45 (L s))) := by
   have : (L s == [48]) = false := by rw [beq_eq_false_iff_ne]; exact h0
   simp only [mayB, this, Bool.or_false]
  rw [hm]
  by_cases hn : L s = []
  ·rw [hn]
   have : EvB 5 (fun k => reredosref01_May.j0 k s 0 false) false := by
    have := BMay_j1 s hs 0 (by omega)
    rw [hn] at this
    exact EvB.step (fun k => by show reredosref01_May.j0 (k + 1) s 0 false = reredosref01_May.j1 k s ((0 : Nat) : Int); rw [reredosref01_May.j0, if_neg (by decide)]; rfl) this
   refine EvB.congr (fun k => ?_) this
   unfold reredosref01_May.f
   rw [if_neg (by rw [hl]; exact h0), if_pos (by rw [hl]; exact hn)]
  ·obtain ⟨c, r, hcr⟩ : ∃ c r, L s = c :: r := by
    cases h : L s with
    | nil => exact absurd h hn
    | cons c r => exact ⟨c, r, rfl⟩
   have hpos : 0 < (L s).length := by rw [hcr]; simp
   have hb0 : bt s 0 = (c.toNat : Int) := by
    have h1 := L_bt s 0 hpos
    have h2 : (L s)[0] = c := by simp [hcr]
    rw [h2] at h1
    exact h1
   have hf : ∀ k, reredosref01_May.f k s = reredosref01_May.j0 k s 0 (c == 45) := by
    intro k
    unfold reredosref01_May.f
    have he : ((bt s 0) == 45) = (c == 45) := by
     rw [hb0, Bool.eq_iff_iff, beq_iff_eq, beq_iff_eq]
     exact byte_iff c 45
    rw [if_neg (by rw [hl]; exact h0), if_neg (by rw [hl]; exact hn), if_pos (by rw [L_size]; omega), he]
   refine EvB.congr hf ?_
   by_cases h45 : c = 45
   ·have ht : trimC 45 (L s) = (L s).drop 1 := by rw [hcr, h45]; simp [trimC]
    rw [ht]
    exact EvB.step (fun k => by show reredosref01_May.j0 (k + 1) s 0 (c == 45) = reredosref01_May.j1 k s ((1 : Nat) : Int); rw [reredosref01_May.j0, if_pos (by rw [beq_iff_eq]; exact h45)]; rfl) (BMay_j1 s hs 1 (by omega))
   ·have ht : trimC 45 (L s) = (L s).drop 0 := by rw [hcr]; simp [trimC, h45]
    rw [ht]
    exact EvB.step (fun k => by show reredosref01_May.j0 (k + 1) s 0 (c == 45) = reredosref01_May.j1 k s ((0 : Nat) : Int); rw [reredosref01_May.j0, if_neg (by rw [beq_iff_eq]; exact h45)]; rfl) (BMay_j1 s hs 0 (by omega))
theorem BNumber_eq (s : ByteArray) (hs : (L s).length ≤ 140737488351232) : EvB ((L s).length + 6) (fun k => reredosref07_Number.f k s) (outN (numberL (L s))) := by
 have hl : s.toList = L s := toList_L s
 have hmay : ∀ (t : ByteArray), (L t).length ≤ 140737488351232 → EvB ((L t).length + 5) (fun k => (reredosref01_May.f k t).bind fun b => (if b = true then some (t, true) else some ((⟨#[]⟩ : ByteArray), false))) (outN (if mayB (L t) = true then some (L t) else none)) := by
  intro t ht
  refine EvB.bind (BMay_eq t (by omega)) (EvB.le (B := 0) ?_ (by omega))
  cases mayB (L t) with
  | true => simp only [if_true, outN]; rw [mkB_L]; exact EvB.now _
  | false => simp only [Bool.false_eq_true, if_false, outN]; exact EvB.now _
 cases hcr : L s with
 | nil =>
  have : outN (numberL []) = outN (if mayB (L s) = true then some (L s) else none) := by rw [hcr]; decide
  rw [this]
  refine EvB.le (B := (L s).length + 6) (EvB.congr (fun k => ?_) (EvB.step (g := fun k => reredosref07_Number.j0 k s s false) (fun k => ?_) (hmay s hs))) (by rw [hcr]; exact Nat.le_refl _)
  ·unfold reredosref07_Number.f
   rw [if_pos (by rw [hl, hcr])]
  ·show reredosref07_Number.j0 (k + 1) s s false = _
   rw [reredosref07_Number.j0, if_neg (by decide), if_pos (by rw [hl, hcr])]
 | cons c r =>
  have hb := kind_bt s c r hcr
  have hsz : 0 < (s.size : Int) := by rw [L_size, hcr, List.length_cons]; omega
  have hne : ¬ s.toList = ([] : List UInt8) := by rw [hl, hcr]; simp
  have hf : ∀ k, reredosref07_Number.f k s = reredosref07_Number.j0 k s s (c == 95) := by
   intro k
   unfold reredosref07_Number.f
   have : ((bt s 0) == 95) = (c == 95) := by
    rw [hb, Bool.eq_iff_iff, beq_iff_eq, beq_iff_eq]
    exact byte_iff c 95
   rw [if_neg hne, if_pos hsz, this]
  rw [← hcr, number_iff (L s) c r hcr]
  refine EvB.congr hf ?_
  have h45 : bt s 0 = 45 ↔ c = 45 := by rw [hb]; exact byte_iff c 45
  by_cases h95 : c = 95
  ·subst h95
   have hx : L ((⟨#[45]⟩ : ByteArray) ++ (s.extract 1 s.size)) = 45 :: r := by
    rw [L_append, L_end, hcr]; rfl
   have hlr : r.length + 1 = (L s).length := by rw [hcr, List.length_cons]
   have hsx : (s.extract 1 s.size).size = r.length := by rw [L_size, L_end, hcr]; rfl
   have hm := hmay ((⟨#[45]⟩ : ByteArray) ++ (s.extract 1 s.size)) (by rw [hx, List.length_cons]; omega)
   rw [hx] at hm
   rw [if_neg (by decide), if_pos rfl]
   refine EvB.le (EvB.step (fun k => ?_) hm) (by rw [List.length_cons]; omega)
   show reredosref07_Number.j0 (k + 1) s s ((95 : UInt8) == 95) = _
   rw [reredosref07_Number.j0, if_pos (by decide), if_pos (by omega), if_pos (by rw [hsx]; omega), if_neg hne, if_pos hsz, if_neg (by rw [h45]; decide)]
  ·have hb95 : (c == 95) = false := by rw [beq_eq_false_iff_ne]; exact h95
   rw [if_neg h95, hb95]
   by_cases hc45 : c = 45
   ·rw [if_pos hc45]
    refine EvB.le (EvB.step (f := fun _ => some ((⟨#[]⟩ : ByteArray), false)) (fun k => ?_) (EvB.now _)) (by omega)
    show reredosref07_Number.j0 (k + 1) s s false = _
    rw [reredosref07_Number.j0, if_neg (by decide), if_neg hne, if_pos hsz, if_pos (h45.2 hc45)]
   ·rw [if_neg hc45]
    refine EvB.step (fun k => ?_) (hmay s hs)
    show reredosref07_Number.j0 (k + 1) s s false = _
    rw [reredosref07_Number.j0, if_neg (by decide), if_neg hne, if_pos hsz, if_neg (fun h => hc45 (h45.1 h))]
end Go.Proofs.Ytdelccahgchadaa
end
section
namespace Go.Proofs.Ytdelccahgchadaa
open Go.RowKit Go.Lib Go.Proofs.Ytdelccahgchadaa.P Go.Proofs.YtdelccahgchadaaW.PrintWords Go.Proofs.YtdelccahgchadaaW.PrintMore
set_option linter.unusedVariables false
def RRel (l : List Tt) (r : List Nn × PSt) (o : Option (List Nn × Int × Bool)) : Prop :=
 ∃ x, o = some (x, Ps l r.2, !r.2.2) ∧ (r.2.2 = false → x = r.1) ∧ (r.2.2 = true → x.length ≤ 1)
theorem RRel.bad {l : List Tt} {r : List Nn × PSt} {o : Option (List Nn × Int × Bool)} (x : List Nn) (hb : r.2.2 = true) (h1 : o = some (x, Ps l r.2, false)) (h3 : x.length ≤ 1) : RRel l r o :=
 ⟨x, by rw [h1, hb]; rfl, fun h => (by rw [hb] at h; cases h), fun _ => h3⟩
theorem RRel.good {l : List Tt} {r : List Nn × PSt} {o : Option (List Nn × Int × Bool)} (hb : r.2.2 = false) (h1 : o = some (r.1, Ps l r.2, true)) : RRel l r o :=
 ⟨r.1, by rw [h1, hb]; rfl, fun _ => rfl, fun h => (by rw [hb] at h; cases h)⟩
def ROk (l : List Tt) (RXF : RX_F) (E : ES) (n : Nat) : Prop := GoodE E n ∧ (∀ m, E (m, true) = ([], (m, true))) ∧ ∀ st, st.1 <:+ l → st.2 = false → meas st < n → RRel l (E st) (RXF l (Ps l st))
section
variable (l : List Tt) (hl : l.length ≤ 1000)
theorem Rkind0 (l : List Tt) (st : PSt) (hs : st.1 <:+ l) (hb : st.2 = false) : reredosref09_kind.f l (Ps l st) = some (kd0 st) ∧ reredosref09_text.f l (Ps l st) = some (tx0 st) := by
 obtain ⟨m, b⟩ := st
 simp only at hb
 subst hb
 obtain ⟨hd, hle⟩ := suffix_drop hs
 unfold reredosref09_kind.f reredosref09_text.f
 cases m with
 | nil =>
  have : Ps l ([], false) = (l.length : Int) := by unfold Ps; simp
  rw [if_pos (by omega), if_pos (by omega)]
  exact ⟨rfl, rfl⟩
 | cons t r =>
  obtain ⟨h1, h2⟩ := rd_tok l (l.length - (t :: r).length) t r hd
  have : Ps l (t :: r, false) = ((l.length - (t :: r).length : Nat) : Int) := rfl
  rw [this, if_neg (by omega), if_pos (by omega), if_pos (by omega), if_neg (by omega), if_pos (by omega), if_pos (by omega), h1]
  exact ⟨rfl, rfl⟩
theorem Rmark0 (l : List Tt) (st : PSt) (hs : st.1 <:+ l) (hb : st.2 = false) (m : UInt8) : reredosref09_mark.f l (Ps l st) (⟨#[m]⟩ : ByteArray) = some (isM m st) := by
 obtain ⟨h1, h2⟩ := Rkind0 l st hs hb
 unfold reredosref09_mark.f
 rw [h1, h2]
 simp only [Option.bind_some]
 by_cases h6 : kd0 st = 6
 ·rw [if_pos h6]
  have : ((tx0 st).toList == (⟨#[m]⟩ : ByteArray).toList) = isM m st := by
   rw [Bool.eq_iff_iff, beq_iff_eq, isM_iff, toList_L, toList_L]
   exact ⟨fun h => ⟨h6, L_ext h⟩, fun h => by rw [h.2]⟩
  rw [this]
 ·rw [if_neg h6]
  have : isM m st = false := by rw [← Bool.not_eq_true, isM_iff]; exact fun h => h6 h.1
  rw [this]
theorem Rverbal0 (l : List Tt) (st : PSt) (hs : st.1 <:+ l) (hb : st.2 = false) : reredosref09_verbal.f l (Ps l st) = some (verbal st) := by
 obtain ⟨h1, h2⟩ := Rkind0 l st hs hb
 unfold reredosref09_verbal.f
 rw [h1, Rmark0 l st hs hb]
 simp only [Option.bind_some]
 unfold verbal
 by_cases h3 : kd0 st = 3
 ·rw [if_pos h3, h3]; rfl
 ·have e3 : (kd0 st == 3) = false := by rw [beq_eq_false_iff_ne]; exact h3
  rw [if_neg h3, e3]
  by_cases h4 : kd0 st = 4
  ·rw [if_pos h4, h4]; rfl
  ·have e4 : (kd0 st == 4) = false := by rw [beq_eq_false_iff_ne]; exact h4
   rw [if_neg h4, e4]
   rfl
theorem Rnode0 (a : Int) (b c d : ByteArray) (e : List ByteArray) (x y z : List Nn) (hx : x.length ≤ 10000) (hy : y.length ≤ 10000) (hz : z.length ≤ 10000) :
  reredosref09_node.f a b c d e x y z = some (⟨a, b, c, d, e⟩ :: (x ++ (y ++ z))) := by
 unfold reredosref09_node.f
 simp only [Option.bind_some, List.length_nil, List.nil_append, List.length_append, List.length_cons]
 rw [if_pos (by omega), if_pos (by omega), if_pos (by omega), if_pos (by omega)]
 simp
theorem Rclosed0 (l : List Tt) (hl : l.length ≤ 1000) (RXF : RX_F) (E : ES) (n : Nat) (hE : ROk l RXF E n) (st : PSt) (hs : st.1 <:+ l) (hb : st.2 = false) (hm : meas st < n) (c : UInt8) :
  RRel l ((E st).1, markS c (E st).2) (reredosref09_closed.f RXF l (Ps l st) (⟨#[c]⟩ : ByteArray)) := by
 obtain ⟨x, h1, h2, h3⟩ := hE.2.2 st hs hb hm
 have hf := hE.1 st hm
 have hs2 : (E st).2.1 <:+ l := hf.1.trans hs
 unfold reredosref09_closed.f
 rw [h1]
 simp only [Option.bind_some]
 cases hbd : (E st).2.2 with
 | true =>
  have he : markS c (E st).2 = (E st).2 := by
   have hi : isM c (E st).2 = false := by unfold isM kd0; rw [hbd]; rfl
   unfold markS
   rw [hi, if_neg (by decide), ← hbd]
  rw [if_neg (by decide)]
  have he2 : ((E st).1, markS c (E st).2) = ((E st).1, (E st).2) := by rw [he]
  rw [he2]
  exact RRel.bad x hbd rfl (h3 hbd)
 | false =>
  rw [if_pos (by decide), Rmark0 l (E st).2 hs2 hbd]
  simp only [Option.bind_some]
  unfold markS
  by_cases hM : isM c (E st).2 = true
  ·rw [if_pos hM, if_pos hM]
   refine RRel.good hbd ?_
   rw [Ps_next l (by omega) (E st).2 hs2 (by rw [isM_kd hM]; decide), h2 hbd]
  ·rw [if_neg hM, if_neg hM]
   exact RRel.bad [] rfl rfl (by simp)
theorem advOk_cons (c : UInt8) (r : Bs) (t : ByteArray) : advOk (c :: r) t = (L t == [c] || advOk r t) := by
 unfold advOk
 cases h : L t with
 | nil => rfl
 | cons d q =>
  cases q with
  | nil =>
   simp only [List.contains_cons]
   have : ([d] == [c]) = (d == c) := by rw [Bool.eq_iff_iff, beq_iff_eq, beq_iff_eq]; simp
   rw [this]
  | cons e q =>
   have : ((d :: e :: q) == [c]) = false := by rw [beq_eq_false_iff_ne]; simp
   rw [this]; rfl
theorem Rverb_l0 (l : List Tt) (RXF : RX_F) (st : PSt) (hs : st.1 <:+ l) (hb : st.2 = false) (a3 : ByteArray) (hsz : (L a3).length ≤ 1000) (x0 : Int) (x1 x2 x3 : ByteArray) (x4 : List Nn) (ok : Bool) : ∀ (m i k : Nat), (L a3).length - i < m → m ≤ k → i ≤ (L a3).length →
  reredosref09_verb.l0 RXF k l a3 (i : Int) x0 x1 x2 x3 x4 (Ps l st) ok = some (if advOk ((L a3).drop i) (tx0 st) = true then (x0, x1, tx0 st, x3, [], x4, wrap64 (Ps l st + 1), ok) else (x0, x1, x2, x3, [], [], Ps l st, false)) := by
 intro m
 induction m with
 | zero => intro i k h; omega
 | succ m ih =>
  intro i k h hk hi
  obtain ⟨k, rfl⟩ : ∃ j, k = j + 1 := ⟨k - 1, by omega⟩
  obtain ⟨_, h2⟩ := Rkind0 l st hs hb
  rw [reredosref09_verb.l0]
  by_cases hlt : i < (L a3).length
  ·rw [if_pos (by rw [L_size]; omega), h2, Option.bind_some]
   have hw : wrap64 ((i : Int) + 1) = ((i + 1 : Nat) : Int) := succ_w' (by omega)
   have hrec := ih (i + 1) k (by omega) (by omega) (by omega)
   rw [hw, if_pos (by omega), if_pos (by omega), if_pos (by rw [L_size]; omega), hrec]
   clear hrec hw
   have hex : L (a3.extract (i : Int).toNat ((i + 1 : Nat) : Int).toNat) = [(L a3)[i]] := by
    rw [Int.toNat_natCast, Int.toNat_natCast, L_extract, List.drop_eq_getElem_cons hlt, show i + 1 - i = 1 by omega]; rfl
   rw [List.drop_eq_getElem_cons hlt, advOk_cons, toList_L, toList_L, hex]
   by_cases hc : L (tx0 st) = [(L a3)[i]]
   ·rw [if_pos hc]
    have e1 : a3.extract (i : Int).toNat ((i + 1 : Nat) : Int).toNat = tx0 st := L_ext (by rw [hex, hc])
    rw [e1]
    have e2 : (L (tx0 st) == [(L a3)[i]]) = true := by rw [beq_iff_eq]; exact hc
    rw [e2, Bool.true_or, if_pos rfl]
   ·rw [if_neg hc]
    have e2 : (L (tx0 st) == [(L a3)[i]]) = false := by rw [beq_eq_false_iff_ne]; exact hc
    rw [e2, Bool.false_or]
  ·rw [if_neg (by rw [L_size]; omega), List.drop_eq_nil_of_le (by omega)]
   have : advOk [] (tx0 st) = false := by unfold advOk; split <;> rfl
   rw [this, if_neg (by decide)]
theorem Rverb0 (l : List Tt) (hl : l.length ≤ 1000) (RXF : RX_F) (E : ES) (n : Nat) (hE : ROk l RXF E n) (k : Nat) (a3 : ByteArray) (ha3 : (L a3).length ≤ 100) (hk : 200 ≤ k) (st : PSt) (hs : st.1 <:+ l) (hb : st.2 = false) (hv : verbal st = true) (hm : meas st < n + 1) (kind : Int) :
  ∃ ad x, reredosref09_verb.f RXF k l (Ps l st) kind a3 = some (kind, tx0 st, ad, ⟨#[]⟩, [], x, Ps l (verbS E kind (L a3) st).2.2, !(verbS E kind (L a3) st).2.2.2) ∧
   ((verbS E kind (L a3) st).2.2.2 = false → (verbS E kind (L a3) st).1 = ⟨kind, tx0 st, ad, ⟨#[]⟩, []⟩ ∧ x = (verbS E kind (L a3) st).2.1) ∧ ((verbS E kind (L a3) st).2.2.2 = true → x.length ≤ 1) := by
 have hkd : kd0 st ≠ 0 := by rcases verbal_kd hv with h | h | h <;> rw [h] <;> decide
 obtain ⟨hn, _, hms⟩ := meas_next hkd hm
 obtain ⟨ht, hl1⟩ := kd0_taken hkd
 have hsn : (next st).1 <:+ l := ht.suf hs
 have hbn : (next st).2 = false := hb
 obtain ⟨_, h2⟩ := Rkind0 l st hs hb
 unfold reredosref09_verb.f
 rw [h2]
 simp only [Option.bind_some]
 rw [Ps_next l (by omega) st hs hkd]
 obtain ⟨k, rfl⟩ : ∃ j, k = j + 2 := ⟨k - 2, by omega⟩
 
 have hj : ∀ (q : List Nn) (x : List Nn) (b : PSt), b.1 <:+ l → (b.2 = false → x = q) → (b.2 = true → x.length ≤ 1) →
   ∃ ad y, reredosref09_verb.j0 RXF (k + 2) l a3 kind (tx0 st) (⟨#[]⟩ : ByteArray) (⟨#[]⟩ : ByteArray) x (Ps l b) (!b.2) = some (kind, tx0 st, ad, ⟨#[]⟩, [], y, Ps l (if kd0 b = 5 then (if advOk (L a3) (tx0 b) = true then next b else (b.1, true)) else b), !(if kd0 b = 5 then (if advOk (L a3) (tx0 b) = true then next b else (b.1, true)) else b).2) ∧
    ((if kd0 b = 5 then (if advOk (L a3) (tx0 b) = true then next b else (b.1, true)) else b).2 = false → ad = (if kd0 b = 5 then tx0 b else ⟨#[]⟩) ∧ y = q) ∧ ((if kd0 b = 5 then (if advOk (L a3) (tx0 b) = true then next b else (b.1, true)) else b).2 = true → y.length ≤ 1) := by
  intro q x b hbs hx hx2
  rw [reredosref09_verb.j0]
  cases hbb : b.2 with
  | true =>
   have hk0 : ¬ kd0 b = 5 := by
    have : kd0 b = 0 := by unfold kd0; rw [hbb]; rfl
    rw [this]; decide
   rw [if_neg hk0, if_neg hk0, Bool.not_true, if_neg (by decide), reredosref09_verb.j1, if_pos rfl, hbb]
   exact ⟨_, x, rfl, fun h => (by cases h), fun _ => hx2 hbb⟩
  | false =>
   simp only [Bool.not_false, if_true]
   obtain ⟨g1, g2⟩ := Rkind0 l b hbs hbb
   rw [g1]
   simp only [Option.bind_some]
   rw [reredosref09_verb.j1]
   by_cases h5 : kd0 b = 5
   ·have e5 : (kd0 b != 5) = false := by rw [h5]; rfl
    have hkb : kd0 b ≠ 0 := by rw [h5]; decide
    have hl0 := Rverb_l0 l RXF b hbs hbb a3 (by omega) kind (tx0 st) (⟨#[]⟩ : ByteArray) (⟨#[]⟩ : ByteArray) x true ((L a3).length + 1) 0 k (by omega) (by omega) (by omega)
    rw [e5, if_neg (by decide)]
    have e0 : (0 : Int) = ((0 : Nat) : Int) := rfl
    rw [e0, hl0, List.drop_zero]
    simp only [if_pos h5]
    by_cases ha : advOk (L a3) (tx0 b) = true
    ·rw [if_pos ha, if_pos ha, Ps_next l (by omega) b hbs hkb]
     have hnb : (next b).2 = false := hbb
     refine ⟨_, _, ?_, fun _ => ⟨rfl, hx hbb⟩, fun h => ?_⟩
     ·rw [hnb]; rfl
     ·rw [hnb] at h; cases h
    ·rw [if_neg ha, if_neg ha]
     exact ⟨_, _, rfl, fun h => (by cases h), fun _ => by simp⟩
   ·have e5 : (kd0 b != 5) = true := by rw [bne_iff_ne]; exact h5
    rw [e5, if_pos rfl]
    simp only [if_neg h5, hbb, Bool.not_false]
    exact ⟨_, _, rfl, fun _ => ⟨rfl, hx hbb⟩, fun h => (by cases h)⟩
 have h123 : (tx0 st).toList = ([123] : List UInt8) ↔ tx0 st = ⟨#[123]⟩ := by
  rw [toList_L]
  exact ⟨fun h => L_ext h, fun h => by rw [h]⟩
 
 have hvS : ∀ b : List Nn × PSt, (if tx0 st = ⟨#[123]⟩ then ((E (next st)).1, markS 125 (E (next st)).2) else ([], next st)) = b →
   verbS E kind (L a3) st = (⟨kind, tx0 st, (if kd0 b.2 = 5 then tx0 b.2 else ⟨#[]⟩), ⟨#[]⟩, []⟩, b.1, (if kd0 b.2 = 5 then (if advOk (L a3) (tx0 b.2) = true then next b.2 else (b.2.1, true)) else b.2)) := by
  intro b hb
  unfold verbS
  simp only []
  rw [hb]
  by_cases h5 : kd0 b.2 = 5
  ·rw [if_pos h5, if_pos h5, if_pos h5]
  ·rw [if_neg h5, if_neg h5, if_neg h5]
 by_cases hbody : tx0 st = ⟨#[123]⟩
 ·rw [if_pos (h123.2 hbody)]
  obtain ⟨x, c1, c2, c3⟩ := Rclosed0 l hl RXF E n hE (next st) hsn hbn hn 125
  rw [c1]
  simp only [Option.bind_some]
  have hf := hE.1 (next st) hn
  have hmk := markS_taken 125 (E (next st)).2
  obtain ⟨ad, y, d1, d2, d3⟩ := hj (E (next st)).1 x (markS 125 (E (next st)).2) (hmk.suf (hf.taken.suf hsn)) c2 c3
  have hv2 := hvS _ (if_pos hbody)
  rw [hv2]
  exact ⟨ad, y, d1, fun h => ⟨by rw [(d2 h).1], (d2 h).2⟩, d3⟩
 ·rw [if_neg (fun e => hbody (h123.1 e))]
  obtain ⟨ad, y, d1, d2, d3⟩ := hj [] [] (next st) hsn (fun _ => rfl) (fun _ => by simp)
  have hv2 := hvS _ (if_neg hbody)
  rw [hv2]
  rw [hbn, Bool.not_false] at d1
  exact ⟨ad, y, d1, fun h => ⟨by rw [(d2 h).1], (d2 h).2⟩, d3⟩
theorem Rlit0 (l : List Tt) (hl : l.length ≤ 1000) (hsz : ∀ t ∈ l, t.f1.size ≤ 1000) (RXF : RX_F) : ∀ (m : List Tt) (acc : List ByteArray) (k : Nat), m <:+ l → acc.length ≤ 100 → m.length + 1100 ≤ k →
  ∃ x, reredosref09_atom.l0 RXF k l (Ps l (m, false)) acc = some (x, Ps l (litS acc m).2, !(litS acc m).2.2 && decide (0 < ((litS acc m).1.length : Int))) ∧ ((litS acc m).2.2 = false → x = [⟨1, ⟨#[]⟩, ⟨#[]⟩, ⟨#[]⟩, (litS acc m).1⟩]) ∧ x.length ≤ 1 := by
 intro m
 induction m with
 | nil =>
  intro acc k hs ha hk
  obtain ⟨k, rfl⟩ : ∃ j, k = j + 1 := ⟨k - 1, by omega⟩
  obtain ⟨g1, g2⟩ := Rkind0 l ([], false) hs rfl
  rw [reredosref09_atom.l0, g1]
  simp only [Option.bind_some]
  rw [if_neg (by decide)]
  exact ⟨_, rfl, fun _ => rfl, by simp⟩
 | cons t r ih =>
  intro acc k hs ha hk
  rw [List.length_cons] at hk
  obtain ⟨k, rfl⟩ : ∃ j, k = j + 1 := ⟨k - 1, by omega⟩
  obtain ⟨g1, g2⟩ := Rkind0 l (t :: r, false) hs rfl
  have e1 : kd0 (t :: r, false) = t.f0 := rfl
  have e2 : tx0 (t :: r, false) = t.f1 := rfl
  rw [reredosref09_atom.l0, g1, e1]
  simp only [Option.bind_some]
  by_cases h1 : t.f0 = 1
  ·have hlS : litS acc (t :: r) = if acc.length = 100 then (acc, t :: r, true) else litS (acc ++ [numS t.f1]) r := by simp only [litS]; rw [if_pos h1]
   rw [hlS, if_pos h1, g2, e2]
   simp only [Option.bind_some]
   have ht : t ∈ l := hs.subset List.mem_cons_self
   have hts := hsz t ht
   have hN : reredosref07_Number.f k t.f1 = some (outN (numberL (L t.f1))) := BNumber_eq t.f1 (by rw [L_size] at hts; omega) k (by rw [L_size] at hts; omega)
   rw [hN]
   simp only [Option.bind_some]
   have hb : acc.length < 8796093022208 := Nat.lt_of_le_of_lt ha (by decide)
   rw [if_pos hb]
   simp only [List.length_append, List.length_singleton]
   by_cases h2 : acc.length = 100
   ·rw [if_pos (by omega), if_pos h2]
    exact ⟨_, rfl, fun h => (by cases h), by simp⟩
   ·rw [if_neg (by omega), if_neg h2, Ps_next l (by omega) (t :: r, false) hs (by rw [e1, h1]; decide)]
    exact ih (acc ++ [numS t.f1]) k ((List.suffix_cons t r).trans hs) (by rw [List.length_append, List.length_singleton]; omega) (by omega)
  ·have hlS : litS acc (t :: r) = (acc, t :: r, false) := by simp only [litS]; rw [if_neg h1]
   rw [if_neg h1, hlS]
   exact ⟨_, rfl, fun _ => rfl, by simp⟩
theorem Ratom0 (l : List Tt) (hl : l.length ≤ 1000) (hsz : ∀ t ∈ l, t.f1.size ≤ 1000) (RXF : RX_F) (E : ES) (n : Nat) (hE : ROk l RXF E n) (k : Nat) (hk : l.length + 1100 ≤ k) (st : PSt) (hs : st.1 <:+ l) (hb : st.2 = false) (hm : meas st < n + 1) :
  RRel l (atomS E st) (reredosref09_atom.f RXF k l (Ps l st)) := by
 obtain ⟨g1, g2⟩ := Rkind0 l st hs hb
 unfold reredosref09_atom.f
 rw [g1, Rmark0 l st hs hb]
 simp only [Option.bind_some]
 have hlen := hs.length_le
 unfold atomS
 by_cases h2 : kd0 st = 2
 ·rw [if_pos h2, if_neg (by rw [h2]; decide), if_pos h2, g2]
  simp only [Option.bind_some]
  have hbn : (next st).2 = false := hb
  exact RRel.good hbn (by rw [Ps_next l (by omega) st hs (by rw [h2]; decide)])
 ·rw [if_neg h2]
  by_cases hM : isM 40 st = true
  ·have h6 := isM_kd hM
   have hkd : kd0 st ≠ 0 := by rw [h6]; decide
   obtain ⟨hn, _, _⟩ := meas_next hkd hm
   have ht := (kd0_taken hkd).1
   have he : markS 40 st = next st := by unfold markS; rw [if_pos hM]
   have hbn : (next st).2 = false := hb
   rw [if_pos hM, if_neg (by rw [h6]; decide), if_neg h2, he, if_neg (by rw [hbn]; decide), Ps_next l (by omega) st hs hkd]
   obtain ⟨x, c1, c2, c3⟩ := Rclosed0 l hl RXF E n hE (next st) (ht.suf hs) hbn hn 41
   rw [c1, Option.bind_some]
   exact ⟨x, rfl, c2, c3⟩
  ·rw [if_neg hM]
   have hP : Ps l st = Ps l (st.1, false) := rfl
   obtain ⟨x, c1, c2, c3⟩ := Rlit0 l hl hsz RXF st.1 [] k hs (by simp) (by omega)
   rw [hP, c1]
   by_cases h1 : kd0 st = 1
   ·rw [if_pos h1]
    obtain ⟨_, t, r, e1, e2, e3⟩ := kd0_pos (show kd0 st ≠ 0 by rw [h1]; decide)
    have hpos : 0 < (litS [] st.1).1.length := by
     rw [e1]
     have e4 : litS [] (t :: r) = litS [numS t.f1] r := by
      simp only [litS]
      rw [if_pos (by rw [← e2]; exact h1), if_neg (by simp)]
      rfl
     rw [e4, (litS_fine r [numS t.f1]).2.1]
     simp only [List.length_singleton]
     omega
    refine ⟨x, ?_, c2, fun _ => c3⟩
    rw [decide_eq_true (by omega), Bool.and_true, if_neg h2]
   ·rw [if_neg h1, if_neg h2]
    have he : markS 40 st = (st.1, true) := by unfold markS; rw [if_neg hM]
    rw [he, if_pos rfl]
    have hlit : litS [] st.1 = ([], (st.1, false)) := by
     cases hst : st.1 with
     | nil => rfl
     | cons t r =>
      simp only [litS]
      have : kd0 st = t.f0 := by unfold kd0; rw [hb, hst]; rfl
      rw [if_neg (by rw [← this]; exact h1)]
    rw [hlit]
    refine ⟨x, rfl, fun h => (by cases h), fun _ => c3⟩
theorem idxS_bad (E : ES) (m : Nat) (x : List Nn) (st : PSt) (hb : st.2 = true) : idxS E m x st = (x, st) := by
 cases m with
 | zero => rfl
 | succ m =>
  have : isM 91 st = false := by unfold isM kd0; rw [hb]; rfl
  simp only [idxS]
  rw [this, if_neg (by decide)]
theorem Ridx0 (l : List Tt) (hl : l.length ≤ 1000) (RXF : RX_F) (E : ES) (n : Nat) (hE : ROk l RXF E n) : ∀ (m : Nat) (x : List Nn) (st : PSt) (k : Nat), st.1 <:+ l → st.2 = false → meas st < n + 1 → st.1.length ≤ m → x.length + st.1.length ≤ l.length → 2 * m + 3 ≤ k →
  RRel l (idxS E m x st) (reredosref09_term.l0 RXF k l x (Ps l st) true) := by
 intro m
 induction m with
 | zero =>
  intro x st k hs hb hm hmm hx hk
  obtain ⟨k, rfl⟩ : ∃ j, k = j + 2 := ⟨k - 2, by omega⟩
  have : isM 91 st = false := by
   rw [← Bool.not_eq_true]
   intro h
   have := (kd0_taken (show kd0 st ≠ 0 by rw [isM_kd h]; decide)).2
   omega
  rw [reredosref09_term.l0, if_pos rfl, Rmark0 l st hs hb, this]
  simp only [Option.bind_some]
  rw [reredosref09_term.j1, if_neg (by decide)]
  exact RRel.good hb rfl
 | succ m ih =>
  intro x st k hs hb hm hmm hx hk
  obtain ⟨k, rfl⟩ : ∃ j, k = j + 2 := ⟨k - 2, by omega⟩
  rw [reredosref09_term.l0, if_pos rfl, Rmark0 l st hs hb]
  simp only [Option.bind_some, idxS]
  rw [reredosref09_term.j1]
  by_cases h : isM 91 st = true
  ·rw [if_pos h, if_pos h]
   have hkd : kd0 st ≠ 0 := by rw [isM_kd h]; decide
   obtain ⟨hn, _, hms⟩ := meas_next hkd hm
   obtain ⟨ht, hl1⟩ := kd0_taken hkd
   have hbn : (next st).2 = false := hb
   obtain ⟨y, c1, c2, c3⟩ := Rclosed0 l hl RXF E n hE (next st) (ht.suf hs) hbn hn 93
   have hf := hE.1 (next st) hn
   have hmk := markS_taken 93 (E (next st)).2
   have hll := hmk.len
   have hfl := hf.2.1
   have hlen := hs.length_le
   have c1 : reredosref09_closed.f RXF l (Ps l (next st)) (⟨#[93]⟩ : ByteArray) = some (y, Ps l (markS 93 (E (next st)).2), !(markS 93 (E (next st)).2).2) := c1
   have c2 : (markS 93 (E (next st)).2).2 = false → y = (E (next st)).1 := c2
   rw [Ps_next l (by omega) st hs hkd, c1]
   simp only [Option.bind_some]
   cases hbb : (markS 93 (E (next st)).2).2 with
   | true =>
    rw [if_neg (by decide)]
    rw [idxS_bad E m _ _ hbb]
    exact RRel.bad y hbb rfl (c3 hbb)
   | false =>
    rw [if_pos (by decide), c2 hbb, Rnode0 _ _ _ _ _ _ _ _ (by omega) (by omega) (by simp)]
    simp only [Option.bind_some, List.append_nil]
    exact ih (nd0 8 :: (x ++ (E (next st)).1)) (markS 93 (E (next st)).2) k (hmk.suf (hf.taken.suf (ht.suf hs))) hbb (by have := meas_taken (hf.taken.trans hmk) hn; omega) (by omega) (by rw [List.length_cons, List.length_append]; omega) (by omega)
  ·rw [if_neg h, if_neg h]
   exact RRel.good hb rfl
theorem Rterm0 (l : List Tt) (hl : l.length ≤ 1000) (hsz : ∀ t ∈ l, t.f1.size ≤ 1000) (RXF : RX_F) (E : ES) (n : Nat) (hE : ROk l RXF E n) (k : Nat) (hk : l.length + 1100 ≤ k) (hk2 : 2 * l.length + 10 ≤ k) (st : PSt) (hs : st.1 <:+ l) (hb : st.2 = false) (hm : meas st < n + 1) :
  RRel l (termS E st) (reredosref09_term.f RXF k l (Ps l st)) := by
 unfold reredosref09_term.f termS
 obtain ⟨x, c1, c2, c3⟩ := Ratom0 l hl hsz RXF E n hE k hk st hs hb hm
 rw [c1]
 simp only [Option.bind_some]
 have ha := (atomS_fine E n hE.1 st hm).1
 have h1 := hs.length_le
 have h2 := ha.taken.len
 have h3 := ha.2.1
 cases hbb : (atomS E st).2.2 with
 | true =>
  obtain ⟨k, rfl⟩ : ∃ j, k = j + 2 := ⟨k - 2, by omega⟩
  rw [idxS_bad E _ _ _ hbb, Bool.not_true, reredosref09_term.l0, if_neg (by decide), reredosref09_term.j1, if_neg (by decide)]
  exact RRel.bad x hbb rfl (c3 hbb)
 | false =>
  rw [Bool.not_false, c2 hbb]
  exact Ridx0 l hl RXF E n hE (atomS E st).2.1.length (atomS E st).1 (atomS E st).2 k (ha.taken.suf hs) hbb (meas_taken ha.taken hm) (Nat.le_refl _) (by omega) (by omega)
theorem RexprV (l : List Tt) (hl : l.length ≤ 1000) (RXF : RX_F) (E : ES) (n : Nat) (hE : ROk l RXF E n) (k : Nat) (hk : 300 ≤ k) (a3 : ByteArray) (ha3 : (L a3).length ≤ 100) (st : PSt) (hs : st.1 <:+ l) (hb : st.2 = false) (hv : verbal st = true) (hm : meas st < n + 1) (kind : Int) (left : List Nn) (hleft : left.length + st.1.length ≤ l.length) :
  RRel l (exprV E (verbS E kind (L a3) st) left) (reredosref09_exprB.j0 RXF k l kind a3 left (Ps l st) true) := by
 obtain ⟨k, rfl⟩ : ∃ j, k = j + 1 := ⟨k - 1, by omega⟩
 rw [reredosref09_exprB.j0]
 obtain ⟨ad, y, d1, d2, d3⟩ := Rverb0 l hl RXF E n hE k a3 ha3 (by omega) st hs hb hv hm kind
 obtain ⟨v1, v2, v3⟩ := verbS_fine E n hE.1 kind (L a3) st hv hm
 rw [d1]
 simp only [Option.bind_some]
 cases hbb : (verbS E kind (L a3) st).2.2.2 with
 | true =>
  rw [if_neg (by decide)]
  have hst : (verbS E kind (L a3) st).2.2 = ((verbS E kind (L a3) st).2.2.1, true) := by rw [← hbb]
  have hEb := hE.2.1 (verbS E kind (L a3) st).2.2.1
  rw [← hst] at hEb
  unfold exprV
  rw [hEb]
  exact RRel.bad y hbb rfl (d3 hbb)
 | false =>
  rw [if_pos (by decide)]
  obtain ⟨x, c1, c2, c3⟩ := hE.2.2 _ (v1.suf hs) hbb v3
  have hf := hE.1 _ v3
  have hfl := hf.2.1
  have hlen := hs.length_le
  rw [c1]
  simp only [Option.bind_some]
  unfold exprV
  cases hb2 : (E (verbS E kind (L a3) st).2.2).2.2 with
  | true =>
   rw [if_neg (by decide)]
   exact RRel.bad x hb2 rfl (c3 hb2)
  | false =>
   rw [if_pos (by decide), c2 hb2, (d2 hbb).2, Rnode0 _ _ _ _ _ _ _ _ (by omega) (by omega) (by omega)]
   rw [Option.bind_some]
   exact RRel.good hb2 (by rw [(d2 hbb).1])
theorem RexprB0 (l : List Tt) (hl : l.length ≤ 1000) (hsz : ∀ t ∈ l, t.f1.size ≤ 1000) (RXF : RX_F) (E : ES) (n : Nat) (hE : ROk l RXF E n) (k : Nat) (hk : l.length + 2400 ≤ k) (st : PSt) (hs : st.1 <:+ l) (hb : st.2 = false) (hm : meas st < n + 1) :
  RRel l (exprB E st) (reredosref09_exprB.f RXF k l (Ps l st)) := by
 unfold reredosref09_exprB.f exprB
 rw [Rverbal0 l st hs hb]
 simp only [Option.bind_some]
 have hlen := hs.length_le
 by_cases h1 : verbal st = true
 ·rw [if_pos h1, if_pos h1]
  exact RexprV l hl RXF E n hE k (by omega) (⟨#[39, 47, 92, 96]⟩ : ByteArray) (by decide) st hs hb h1 hm 3 [] (by simpa using hlen)
 ·rw [if_neg h1, if_neg h1]
  obtain ⟨x, c1, c2, c3⟩ := Rterm0 l hl hsz RXF E n hE k (by omega) (by omega) st hs hb hm
  rw [c1]
  simp only [Option.bind_some]
  have ht := termS_fine E n hE.1 st hm
  cases hbb : (termS E st).2.2 with
  | true =>
   have hv : verbal (termS E st).2 = false := by unfold verbal isM kd0; rw [hbb]; rfl
   rw [hv, if_neg (by decide), if_neg (by decide)]
   exact RRel.bad x hbb rfl (c3 hbb)
  | false =>
   rw [if_pos (show (!false) = true from rfl), Rverbal0 l (termS E st).2 (ht.taken.suf hs) hbb]
   simp only [Option.bind_some]
   by_cases h2 : verbal (termS E st).2 = true
   ·rw [if_pos h2, if_pos h2, Bool.not_false, c2 hbb]
    have := ht.2.1
    exact RexprV l hl RXF E n hE k (by omega) (⟨#[39, 46]⟩ : ByteArray) (by decide) (termS E st).2 (ht.taken.suf hs) hbb h2 (meas_taken ht.taken hm) 4 (termS E st).1 (by omega)
   ·rw [if_neg h2, if_neg h2]
    exact RRel.good hbb (by rw [c2 hbb]; rfl)
end
theorem RFK_ok (l : List Tt) (hl : l.length ≤ 1000) (hsz : ∀ t ∈ l, t.f1.size ≤ 1000) : ∀ K, ROk l (RFK K) (exprS K) K := by
 intro K
 induction K with
 | zero => exact ⟨exprS_good 0, exprS_bad 0, fun st _ _ h => absurd h (Nat.not_lt_zero _)⟩
 | succ K ih =>
  refine ⟨exprS_good (K + 1), exprS_bad (K + 1), fun st hs hb hm => ?_⟩
  exact RexprB0 l hl hsz (RFK K) (exprS K) K ih (l.length + 2400) (Nat.le_refl _) st hs hb hm
end Go.Proofs.Ytdelccahgchadaa
end
section
namespace Go.Proofs.Ytdelccahgchadaa
open Go.RowKit Go.Lib Go.Proofs.Ytdelccahgchadaa.P Go.Proofs.YtdelccahgchadaaW.PrintWords Go.Proofs.YtdelccahgchadaaW.PrintMore
set_option linter.unusedVariables false
theorem long_le (c : UInt8) (r : Bs) : (longL (c :: r)).2 ≤ r.length + 1 ∧ (1 ≤ (longL (c :: r)).2 ↔ (longL (c :: r)).1 ≠ 0) := by
 have hW := runL_le isWordC r
 have hV := runL_le isVerbC r
 have hD := runL_le isD r
 simp only [longL]
 repeat' split
 all_goals exact ⟨by simp only []; omega, ⟨fun h => by simp only [] at h ⊢; omega, fun h => by simp only [] at h ⊢; omega⟩⟩
def outAt (p : Nat) (acc : List S71) (o : Nat ⊕ List Tk) : List S71 × Int × Int := match o with | .inl e => ([], (e : Int), 2) | .inr ts => (acc ++ ts.map encT, 0, 0)
theorem RLex_l0 (s : ByteArray) (hs : s.size ≤ 256) : ∀ (m p : Nat) (acc : List S71), p ≤ s.size → s.size - p < m → acc.length ≤ p →
  Ev (fun k => reredosref07_Lex.l0 k s acc (p : Int)) (outAt p acc (lexF m p ((L s).drop p))) := by
 intro m
 induction m with
 | zero => intro p acc _ h; omega
 | succ m ih =>
  intro p acc hp hm ha
  have hlen : ((L s).drop p).length = s.size - p := by rw [List.length_drop, ← L_size]
  cases hl : (L s).drop p with
  | nil =>
   rw [hl, List.length_nil] at hlen
   refine Ev.step (f := fun _ => some (acc, 0, 0)) (fun k => ?_) (by simp only [lexF, outAt, List.map_nil, List.append_nil]; exact Ev.now _)
   show reredosref07_Lex.l0 (k + 1) s acc (p : Int) = _
   rw [reredosref07_Lex.l0, if_neg (by omega)]
  | cons c l =>
   rw [hl, List.length_cons] at hlen
   have hpl : p < (L s).length := by rw [← L_size]; omega
   have hg : (L s)[p] = c := by
    have := List.drop_eq_getElem_cons hpl
    rw [hl] at this
    injection this with h1 h2
    exact h1.symm
   have hbt := L_bt s p hpl
   rw [hg] at hbt
   simp only [lexF]
   by_cases hc : c = 32
   ·rw [if_pos hc]
    have := ih (p + 1) acc (by omega) (by omega) (by omega)
    have hd : (L s).drop (p + 1) = l := by rw [← List.drop_drop, hl]; rfl
    rw [hd] at this
    refine Ev.step (fun k => ?_) this
    show reredosref07_Lex.l0 (k + 1) s acc (p : Int) = _
    rw [reredosref07_Lex.l0, if_pos (by omega), if_pos (by omega), if_pos (by rw [hbt, hc]; rfl), succ_w' (by omega)]
   ·rw [if_neg hc]
    have step0 : ∀ k, reredosref07_Lex.l0 (k + 1) s acc (p : Int) = reredosref07_Lex.l1 k s acc (p : Int) ((0 : Nat) : Int) := by
     intro k
     rw [reredosref07_Lex.l0, if_pos (by omega), if_pos (by omega), if_neg (by rw [hbt]; exact fun h => hc ((byte_iff c 32).1 h))]
     rfl
    obtain ⟨hle, hpos⟩ := long_le c l
    
    have hext : ∀ n, p + n ≤ s.size → L (s.extract (p : Int).toNat ((p + n : Nat) : Int).toNat) = (c :: l).take n := by
     intro n hn
     rw [L_extract, Int.toNat_natCast, Int.toNat_natCast, hl, Nat.add_sub_cancel_left]
    have hkn : ∀ n, p + n ≤ s.size → Ev (fun k => reredosref07_kind.f k (s.extract (p : Int).toNat ((p + n : Nat) : Int).toNat)) ((kindL ((c :: l).take n) : Nat) : Int) := by
     intro n hn
     have := kind_eq (s.extract (p : Int).toNat ((p + n : Nat) : Int).toNat) (by rw [hext n hn, List.length_take]; omega)
     rw [hext n hn] at this
     exact this
    have hl1 : ∀ (d n : Nat) (R : List S71 × Int × Int), (longL (c :: l)).2 - n = d → n ≤ (longL (c :: l)).2 → Ev (fun k => reredosref07_Lex.j2 k s acc (p : Int) (((longL (c :: l)).2 : Nat) : Int)) R → Ev (fun k => reredosref07_Lex.l1 k s acc (p : Int) (n : Int)) R := by
     intro d
     induction d with
     | zero =>
      intro n R hd hn hR
      obtain rfl : n = (longL (c :: l)).2 := by omega
      by_cases hlt : p + (longL (c :: l)).2 < s.size
      ·have hk := hkn ((longL (c :: l)).2 + 1) (by omega)
       rw [kind_take c l _ (by omega), if_neg (by omega)] at hk
       refine Ev.step (f := fun k => (reredosref07_kind.f k (s.extract (p : Int).toNat ((p + ((longL (c :: l)).2 + 1) : Nat) : Int).toNat)).bind fun t289 => (if t289 > 0 then (reredosref07_Lex.l1 k s acc (p : Int) (wrap64 (((longL (c :: l)).2 : Int) + 1))) else (reredosref07_Lex.j2 k s acc (p : Int) ((longL (c :: l)).2 : Int)))) (fun k => ?_) (Ev.bind hk ?_)
       ·show reredosref07_Lex.l1 (k + 1) s acc (p : Int) ((longL (c :: l)).2 : Int) = _
        rw [reredosref07_Lex.l1, add_w (by omega), succ_w' (by omega), if_pos (by omega), if_pos (by omega), if_pos (by omega), if_pos (by omega)]
        rfl
       ·exact Ev.congr (fun k => by rw [if_neg (by decide)]) hR
      ·refine Ev.step (fun k => ?_) hR
       show reredosref07_Lex.l1 (k + 1) s acc (p : Int) ((longL (c :: l)).2 : Int) = _
       rw [reredosref07_Lex.l1, add_w (by omega), if_neg (by omega)]
     | succ d ihd =>
      intro n R hd hn hR
      have hk := hkn (n + 1) (by omega)
      rw [kind_take c l _ (by omega), if_pos (by omega)] at hk
      have h1 : (longL (c :: l)).1 ≠ 0 := hpos.1 (by omega)
      refine Ev.step (f := fun k => (reredosref07_kind.f k (s.extract (p : Int).toNat ((p + (n + 1) : Nat) : Int).toNat)).bind fun t289 => (if t289 > 0 then (reredosref07_Lex.l1 k s acc (p : Int) ((n + 1 : Nat) : Int)) else (reredosref07_Lex.j2 k s acc (p : Int) (n : Int)))) (fun k => ?_) (Ev.bind hk ?_)
      ·show reredosref07_Lex.l1 (k + 1) s acc (p : Int) (n : Int) = _
       rw [reredosref07_Lex.l1, add_w (by omega), succ_w' (by omega), succ_w' (by omega), if_pos (by omega), if_pos (by omega), if_pos (by omega), if_pos (by omega)]
       rfl
      ·exact Ev.congr (fun k => by rw [if_pos (by omega)]) (ihd (n + 1) R (by omega) (by omega) hR)
    refine Ev.step (fun k => step0 k) (hl1 _ 0 _ rfl (by omega) ?_)
    obtain ⟨n, hn⟩ : ∃ n, (longL (c :: l)).2 = n := ⟨_, rfl⟩
    obtain ⟨kk, hkk⟩ : ∃ kk, (longL (c :: l)).1 = kk := ⟨_, rfl⟩
    have hfl := first_long c l
    rw [hn] at hle
    rw [hn, hkk] at hpos hfl
    rw [hn]
    have hw : ∀ k, reredosref07_Lex.j2 (k + 1) s acc (p : Int) (n : Int) = (reredosref07_Number.f k (s.extract (p : Int).toNat ((p + n : Nat) : Int).toNat)).bind fun bt290 => (if (n : Int) = 0 then (some (([] : List S71), (p : Int), 2)) else ((reredosref07_kind.f k (s.extract (p : Int).toNat ((p + n : Nat) : Int).toNat)).bind fun t292 => (if t292 = 1 then (if bt290.2 = true then ((reredosref07_kind.f k (s.extract (p : Int).toNat ((p + n : Nat) : Int).toNat)).bind fun t293 => (if acc.length < 4398046511104 then (reredosref07_Lex.l0 k s (acc ++ [(⟨t293, s.extract (p : Int).toNat ((p + n : Nat) : Int).toNat, (p : Int)⟩ : S71)]) ((p + n : Nat) : Int)) else (none))) else (some (([] : List S71), (p : Int), 2))) else ((reredosref07_kind.f k (s.extract (p : Int).toNat ((p + n : Nat) : Int).toNat)).bind fun t297 => (if acc.length < 4398046511104 then (reredosref07_Lex.l0 k s (acc ++ [(⟨t297, s.extract (p : Int).toNat ((p + n : Nat) : Int).toNat, (p : Int)⟩ : S71)]) ((p + n : Nat) : Int)) else (none)))))) := by
     intro k
     rw [reredosref07_Lex.j2, add_w (by omega), if_pos (by omega), if_pos (by omega), if_pos (by omega)]
    have hnum := RNumber_eq (s.extract (p : Int).toNat ((p + n : Nat) : Int).toNat) (by rw [hext n (by omega), List.length_take]; omega)
    rw [hext n (by omega)] at hnum
    refine Ev.step hw (Ev.bind hnum ?_)
    by_cases hn0 : n = 0
    ·have hk0 : kk = 0 := by
      rcases Nat.eq_zero_or_pos kk with h | h
      ·exact h
      ·have := hpos.2 (by omega); omega
     rw [hk0, if_pos rfl] at hfl
     rw [hfl]
     simp only [outAt]
     exact Ev.congr (f := fun _ => some (([] : List S71), (p : Int), (2 : Int))) (fun k => by rw [if_pos (by omega)]) (Ev.now _)
    ·have hk0 : kk ≠ 0 := hpos.1 (by omega)
     have hk := hkn n (by omega)
     have hkt := kind_take c l (n - 1) (by omega)
     rw [show n - 1 + 1 = n by omega, hn, hkk, if_pos (Nat.le_refl _)] at hkt
     rw [hkt] at hk
     have hacc : acc.length < 4398046511104 := Nat.lt_of_le_of_lt ha (Nat.lt_of_le_of_lt hp (Nat.lt_of_le_of_lt hs (by decide)))
     have hy : s.extract (p : Int).toNat ((p + n : Nat) : Int).toNat = mkB ((c :: l).take n) := L_ext (by rw [hext n (by omega), L_mk])
     have hd : (L s).drop (p + n) = (c :: l).drop n := by rw [← List.drop_drop, hl]
     have hrec := ih (p + n) (acc ++ [(⟨(kk : Int), mkB ((c :: l).take n), (p : Int)⟩ : S71)]) (by omega) (by omega) (by rw [List.length_append, List.length_singleton]; omega)
     rw [hd] at hrec
     have hgo : Ev (fun k => (reredosref07_kind.f k (s.extract (p : Int).toNat ((p + n : Nat) : Int).toNat)).bind fun t293 => (if acc.length < 4398046511104 then (reredosref07_Lex.l0 k s (acc ++ [(⟨t293, s.extract (p : Int).toNat ((p + n : Nat) : Int).toNat, (p : Int)⟩ : S71)]) ((p + n : Nat) : Int)) else (none))) (outAt p acc (match lexF m (p + n) ((c :: l).drop n) with | .inl e => .inl e | .inr ts => .inr (⟨kk, (c :: l).take n, p⟩ :: ts))) := by
      refine Ev.bind hk (Ev.congr (fun k => by rw [if_pos hacc, hy]) ?_)
      have : outAt p acc (match lexF m (p + n) ((c :: l).drop n) with | .inl e => .inl e | .inr ts => .inr (⟨kk, (c :: l).take n, p⟩ :: ts)) = outAt (p + n) (acc ++ [(⟨(kk : Int), mkB ((c :: l).take n), (p : Int)⟩ : S71)]) (lexF m (p + n) ((c :: l).drop n)) := by
       cases lexF m (p + n) ((c :: l).drop n) with
       | inl e => rfl
       | inr ts => simp [outAt, encT]
      rw [this]
      exact hrec
     rw [if_neg hk0] at hfl
     by_cases h1 : kk = 1
     ·cases hno : numberL ((c :: l).take n) with
      | none =>
       rw [hno, if_pos ⟨h1, rfl⟩] at hfl
       rw [hfl]
       simp only [outAt, outN, if_true]
       refine Ev.congr (fun k => by rw [if_neg (by omega)]) (Ev.bind hk ?_)
       exact Ev.congr (f := fun _ => some (([] : List S71), (p : Int), (2 : Int))) (fun k => by rw [if_pos (by omega)]; simp) (Ev.now _)
      | some x =>
       rw [hno, if_neg (fun h => by cases h.2)] at hfl
       have hll : longL (c :: l) = (kk, n) := Prod.ext hkk hn
       rw [hfl, hll]
       simp only [outN]
       rw [if_neg hk0]
       refine Ev.congr (fun k => by rw [if_neg (by omega)]) (Ev.bind hk ?_)
       exact Ev.congr (fun k => by rw [if_pos (by omega)]; simp only [if_true]) hgo
     ·rw [if_neg (fun h => h1 h.1)] at hfl
      have hll : longL (c :: l) = (kk, n) := Prod.ext hkk hn
      rw [hfl, hll]
      simp only []
      rw [if_neg hk0]
      refine Ev.congr (fun k => by rw [if_neg (by omega)]) (Ev.bind hk ?_)
      exact Ev.congr (fun k => by rw [if_neg (by omega)]) hgo
theorem RLex_eq (s : ByteArray) (hs : s.size ≤ 256) : Ev (fun k => reredosref07_Lex.f k s) (outL (lexL (L s))) := by
 have := RLex_l0 s hs (s.size + 1) 0 [] (by omega) (by omega) (by simp)
 rw [List.drop_zero, L_size s] at this
 have e : outL (lexL (L s)) = outAt 0 [] (lexF ((L s).length + 1) 0 (L s)) := by
  unfold lexL
  cases lexF ((L s).length + 1) 0 (L s) with
  | inl e => rfl
  | inr ts => rfl
 rw [e]
 exact Ev.congr (fun k => by unfold reredosref07_Lex.f; rw [if_neg (by omega)]; rfl) this
theorem RLex_big (s : ByteArray) (hs : 256 < s.size) (k : Nat) : reredosref07_Lex.f k s = some ([], 0, 8) := by
 unfold reredosref07_Lex.f
 rw [if_pos (by omega)]
end Go.Proofs.Ytdelccahgchadaa
end
section
namespace Go.Proofs.Ytdelccahgchadaa
open Go.RowKit Go.Proofs.YtdelccahgchadaaW.PrintWords Go.Proofs.YtdelccahgchadaaW.PrintMore
set_option linter.unusedVariables false
section
variable {α : Type} (kd : α → Int)
theorem endW_split {l : List α} {c n : Nat} (h : endW kd l (c + 1) = some n) : ∃ m, endW kd l 1 = some m ∧ endW kd (l.drop m) c = some (n - m) ∧ m ≤ n ∧ 1 ≤ m ∧ m ≤ l.length := by
 rw [Nat.add_comm, endW_add] at h
 cases h1 : endW kd l 1 with
 | none => rw [h1] at h; cases h
 | some m =>
  rw [h1] at h
  obtain ⟨j, h2, h3⟩ := Option.map_eq_some_iff.1 h
  have hl := endW_le kd h1
  refine ⟨m, rfl, ?_, by omega, hl.2 (by omega), hl.1⟩
  rw [h2, show n - m = j by omega]
theorem depL_eq {l : List α} {m : Nat} (h : endW kd l 1 = some m) : depL kd l = mach kd l [] 0 := by unfold depL; rw [h]
theorem endW_seg {l : List α} {m : Nat} (h : endW kd l 1 = some m) : endW kd (l.take m) 1 = some (l.take m).length := by
 have hl := (endW_le kd h).1
 rw [endW_take kd h, List.length_take, Nat.min_eq_left hl]
theorem mach_forest {l : List α} {m : Nat} (c most : Nat) (h : endW kd l 1 = some m) : mach kd l [c + 1] most = (if c = 0 then max most (1 + depL kd (l.take m)) else mach kd (l.drop m) [c] (max most (1 + depL kd (l.take m)))) := by
 have hs := endW_seg kd h
 have := mach_shift kd (l.take m) [] [c + 1] (l.drop m) most (fun c hc => by cases hc) hs
 rw [List.take_append_drop, List.nil_append] at this
 rw [this, depL_eq kd hs]
 unfold fin
 simp only [dec, List.length_cons, List.length_nil, Nat.zero_add, Nat.add_sub_cancel]
 by_cases h0 : c = 0
 ·rw [if_pos (by omega), if_pos h0]
 ·rw [if_neg (by omega), if_neg h0]
theorem depL_cons {x : α} {r : List α} {m : Nat} (h : endW kd (x :: r) 1 = some m) : depL kd (x :: r) = (if (kd x).toNat = 0 then 1 else mach kd r [(kd x).toNat] 1) := by
 rw [depL_eq kd h]
 by_cases h0 : (kd x).toNat = 0
 ·rw [mach_cons0 kd _ _ _ _ h0, if_pos h0]; rfl
 ·rw [mach_consS kd _ _ _ _ h0, if_neg h0]; rfl
theorem endW_cons {x : α} {r : List α} {m : Nat} (h : endW kd (x :: r) 1 = some m) : ¬ kd x < 0 ∧ 1 ≤ m ∧ endW kd r (kd x).toNat = some (m - 1) := by
 simp only [endW] at h
 by_cases h0 : kd x < 0
 ·rw [if_pos h0] at h; cases h
 ·rw [if_neg h0, Nat.zero_add] at h
  obtain ⟨j, h1, h2⟩ := Option.map_eq_some_iff.1 h
  exact ⟨h0, by omega, by rw [h1, show m - 1 = j by omega]⟩
end
end Go.Proofs.Ytdelccahgchadaa
end
section
namespace Go.Proofs.Ytdelccahgchadaa
open Go.RowKit Go.Lib Go.Proofs.Ytdelccahgchadaa.P Go.Proofs.YtdelccahgchadaaW.PrintWords Go.Proofs.YtdelccahgchadaaW.PrintMore
set_option linter.unusedVariables false
theorem RKids_eq (f0 : Int) (v a n : ByteArray) (l : List ByteArray) : Ev (fun k => reredosref08_Kids.f k f0 v a n l) (kdB f0 v) := by
 refine ⟨1, fun k hk => ?_⟩
 obtain ⟨k, rfl⟩ : ∃ j, k = j + 1 := ⟨k - 1, by omega⟩
 show reredosref08_Kids.f (k + 1) f0 v a n l = _
 unfold reredosref08_Kids.f
 simp only [Option.bind_some]
 by_cases h1 : f0 < 1
 ·rw [if_pos h1, reredosref08_Kids.j0, if_pos rfl]
  unfold kdB
  simp only []
  rw [if_neg (by omega), if_neg (by omega), if_neg (by omega), if_neg (by omega), if_neg (by omega)]
 ·rw [if_neg h1]
  by_cases h8 : f0 > 8
  ·rw [decide_eq_true h8, reredosref08_Kids.j0, if_pos rfl]
   unfold kdB
   simp only []
   rw [if_neg (by omega), if_neg (by omega), if_neg (by omega), if_neg (by omega), if_neg (by omega)]
  ·rw [decide_eq_false h8, reredosref08_Kids.j0, if_neg (by decide)]
   have : f0 = 1 ∨ f0 = 2 ∨ f0 = 3 ∨ f0 = 4 ∨ f0 = 5 ∨ f0 = 6 ∨ f0 = 7 ∨ f0 = 8 := by omega
   unfold kdB
   by_cases hv : v.toList = ([123] : List UInt8)
   ·rcases this with rfl | rfl | rfl | rfl | rfl | rfl | rfl | rfl <;> simp [hv, rd, wrap64]
   ·rcases this with rfl | rfl | rfl | rfl | rfl | rfl | rfl | rfl <;> simp [hv, rd]
theorem REnd_out (l : List Nd) (i : Int) (h : i < 0 ∨ (l.length : Int) ≤ i) : Ev (fun k => reredosref08_End.f k l i) (0, false) := by
 have hj : ∀ k, reredosref08_End.j0 (k + 1) l i true = some (0, false) := fun k => by rw [reredosref08_End.j0, if_pos rfl]
 refine Ev.step (f := fun k => reredosref08_End.j0 k l i true) (fun k => ?_) (Ev.step (f := fun _ => some (0, false)) hj (Ev.now _))
 rw [reredosref08_End.f]
 by_cases h0 : i < 0
 ·rw [if_pos h0]
 ·rw [if_neg h0, if_pos (by omega)]
theorem REnd_eq (l : List Nd) (hl : l.length ≤ 1000000) : ∀ (m i : Nat), l.length - i < m → Ev (fun k => reredosref08_End.f k l (i : Int)) (outE i (endW kdT (l.drop i) 1)) := by
 intro m
 induction m with
 | zero => intro i h; omega
 | succ m ih =>
  intro i h
  cases hd : l.drop i with
  | nil =>
   have : l.length ≤ i := by
    have := congrArg List.length hd
    rw [List.length_drop, List.length_nil] at this
    omega
   exact REnd_out l i (.inr (by omega))
  | cons x r =>
   obtain ⟨hr, hlt, hd2⟩ := rd_drop l i x r hd
   have hk := RKids_eq x.f0 x.f1 x.f2 x.f3 x.f4
   have hb := kdB_bounds x.f0 x.f1
   have hk1 : kdT x = kdB x.f0 x.f1 := rfl
   refine Ev.step (f := fun k => (reredosref08_Kids.f k x.f0 x.f1 x.f2 x.f3 x.f4).bind fun t252 => (reredosref08_End.j0 k l (i : Int) (decide (t252 < 0)))) (fun k => ?_) (Ev.bind hk ?_)
   ·rw [reredosref08_End.f, if_neg (by omega), if_neg (by omega), if_pos (by omega), if_pos (by omega), hr]
   ·by_cases hneg : kdB x.f0 x.f1 < 0
    ·rw [decide_eq_true hneg]
     simp only [endW]
     rw [hk1, if_pos hneg]
     exact Ev.step (f := fun _ => some (0, false)) (fun k => by rw [reredosref08_End.j0, if_pos rfl]) (Ev.now _)
    ·rw [decide_eq_false hneg]
     simp only [endW]
     rw [hk1, if_neg hneg, Nat.zero_add]
     obtain ⟨c, hc⟩ : ∃ c, (kdB x.f0 x.f1).toNat = c := ⟨_, rfl⟩
     have hkc : kdB x.f0 x.f1 = (c : Int) := by omega
     have loop : ∀ (d j p : Nat), j + d = c → i < p → p ≤ l.length → Ev (fun k => reredosref08_End.l0 k l (i : Int) (p : Int) (j : Int)) (outE p (endW kdT (l.drop p) d)) := by
      intro d
      induction d with
      | zero =>
       intro j p hj hp hpl
       rw [endW_zero]
       refine Ev.step (f := fun k => (reredosref08_Kids.f k x.f0 x.f1 x.f2 x.f3 x.f4).bind fun t254 => (if (j : Int) < t254 then ((reredosref08_End.f k l (p : Int)).bind fun bt255 => (if bt255.2 = true then (reredosref08_End.l0 k l (i : Int) bt255.1 (wrap64 ((j : Int) + 1))) else (some (0, false)))) else (some ((p : Int), true)))) (fun k => ?_) (Ev.bind hk ?_)
       ·rw [reredosref08_End.l0, if_pos (by omega), if_pos (by omega), hr]
       ·exact Ev.congr (f := fun _ => some ((p : Int), true)) (fun k => by rw [if_neg (by omega)]) (by simp only [outE, Nat.add_zero]; exact Ev.now _)
      | succ d ihd =>
       intro j p hj hp hpl
       have he := ih p (by omega)
       refine Ev.step (f := fun k => (reredosref08_Kids.f k x.f0 x.f1 x.f2 x.f3 x.f4).bind fun t254 => (if (j : Int) < t254 then ((reredosref08_End.f k l (p : Int)).bind fun bt255 => (if bt255.2 = true then (reredosref08_End.l0 k l (i : Int) bt255.1 (wrap64 ((j : Int) + 1))) else (some (0, false)))) else (some ((p : Int), true)))) (fun k => ?_) (Ev.bind hk ?_)
       ·rw [reredosref08_End.l0, if_pos (by omega), if_pos (by omega), hr]
       ·refine Ev.congr (f := fun k => (reredosref08_End.f k l (p : Int)).bind fun bt255 => (if bt255.2 = true then (reredosref08_End.l0 k l (i : Int) bt255.1 (wrap64 ((j : Int) + 1))) else (some (0, false)))) (fun k => by rw [if_pos (by omega)]) (Ev.bind he ?_)
        rw [show d + 1 = 1 + d by omega, endW_add]
        cases hm : endW kdT (l.drop p) 1 with
        | none =>
         simp only [outE, Option.bind_none]
         exact Ev.congr (f := fun _ => some (0, false)) (fun k => by simp) (Ev.now _)
        | some q =>
         have hle := (endW_le kdT hm).1
         rw [List.length_drop] at hle
         simp only [outE, Option.bind_some]
         have hrec := ihd (j + 1) (p + q) (by omega) (by omega) (by omega)
         rw [List.drop_drop]
         have e2 : outE p ((endW kdT (l.drop (p + q)) d).map (q + ·)) = outE (p + q) (endW kdT (l.drop (p + q)) d) := by
          cases endW kdT (l.drop (p + q)) d with
          | none => rfl
          | some z => simp only [outE, Option.map_some]; congr 2; omega
         have e3 := e2
         unfold outE at e3
         unfold outE at hrec
         rw [e3]
         exact Ev.congr (fun k => by simp only [if_true]; rw [succ_w' (by omega)]) hrec
     have h0 := loop c 0 (i + 1) (by omega) (by omega) (by omega)
     rw [hd2, ← hc] at h0
     have e2 : outE (i + 1) (endW kdT r (kdB x.f0 x.f1).toNat) = outE i ((endW kdT r (kdB x.f0 x.f1).toNat).map (· + 1)) := by
      cases endW kdT r (kdB x.f0 x.f1).toNat with
      | none => rfl
      | some z => simp only [outE, Option.map_some]; congr 2; omega
     rw [e2] at h0
     exact Ev.step (fun k => by rw [reredosref08_End.j0, if_neg (by decide), succ_w' (by omega)]; rfl) h0
theorem REnd_at (l : List Nd) (hl : l.length ≤ 1000000) (i : Nat) : Ev (fun k => reredosref08_End.f k l (i : Int)) (outE i (endW kdT (l.drop i) 1)) := REnd_eq l hl (l.length - i + 1) i (by omega)
theorem RUnder_at (l : List Nd) (hl : l.length ≤ 1000000) (i : Nat) : Ev (fun k => reredosref08_Under.f k l (i : Int)) ((undL l i).map fun n : Nat => (n : Int)) := by
 refine Ev.congr (fun k => by unfold reredosref08_Under.f; rfl) (Ev.bind (REnd_at l hl i) ?_)
 unfold undL
 cases h : endW kdT (l.drop i) 1 with
 | none =>
  simp only [outE]
  exact Ev.congr (f := fun _ => some []) (fun k => by simp) (Ev.now _)
 | some m =>
  simp only [outE]
  cases hd : l.drop i with
  | nil => rw [hd] at h; cases h
  | cons x r =>
   obtain ⟨hr, hlt, hd2⟩ := rd_drop l i x r hd
   rw [hd] at h
   obtain ⟨k1, k2, k3⟩ := endW_cons kdT h
   have hk := RKids_eq x.f0 x.f1 x.f2 x.f3 x.f4
   have hb := kdB_bounds x.f0 x.f1
   have hk1 : kdT x = kdB x.f0 x.f1 := rfl
   obtain ⟨c, hc⟩ : ∃ c, (kdT x).toNat = c := ⟨_, rfl⟩
   have hkc : kdB x.f0 x.f1 = (c : Int) := by omega
   have loop : ∀ (d j p : Nat) (acc : List Int), j + d = c → acc.length ≤ 3 → acc.length = j → Ev (fun k => reredosref08_Under.l0 k l (i : Int) acc (p : Int) (j : Int)) (acc ++ (undP l d p).map fun n : Nat => (n : Int)) := by
    intro d
    induction d with
    | zero =>
     intro j p acc hj ha ha2
     refine Ev.step (f := fun k => (reredosref08_Kids.f k x.f0 x.f1 x.f2 x.f3 x.f4).bind fun t260 => (if (j : Int) < t260 then (if acc.length < 17592186044416 then ((reredosref08_End.f k l (p : Int)).bind fun bt264 => (reredosref08_Under.l0 k l (i : Int) (acc ++ [(p : Int)]) bt264.1 (wrap64 ((j : Int) + 1)))) else (none)) else (some acc))) (fun k => ?_) (Ev.bind hk ?_)
     ·rw [reredosref08_Under.l0, if_pos (by omega), if_pos (by omega), hr]
     ·exact Ev.congr (f := fun _ => some acc) (fun k => by rw [if_neg (by omega)]) (by simp only [undP, List.map_nil, List.append_nil]; exact Ev.now _)
    | succ d ihd =>
     intro j p acc hj ha ha2
     refine Ev.step (f := fun k => (reredosref08_Kids.f k x.f0 x.f1 x.f2 x.f3 x.f4).bind fun t260 => (if (j : Int) < t260 then (if acc.length < 17592186044416 then ((reredosref08_End.f k l (p : Int)).bind fun bt264 => (reredosref08_Under.l0 k l (i : Int) (acc ++ [(p : Int)]) bt264.1 (wrap64 ((j : Int) + 1)))) else (none)) else (some acc))) (fun k => ?_) (Ev.bind hk ?_)
     ·rw [reredosref08_Under.l0, if_pos (by omega), if_pos (by omega), hr]
     ·have hacc : acc.length < 17592186044416 := Nat.lt_of_le_of_lt ha (by decide)
      refine Ev.congr (f := fun k => (reredosref08_End.f k l (p : Int)).bind fun bt264 => (reredosref08_Under.l0 k l (i : Int) (acc ++ [(p : Int)]) bt264.1 (wrap64 ((j : Int) + 1)))) (fun k => by rw [if_pos (by omega), if_pos hacc]) (Ev.bind (REnd_at l hl p) ?_)
      rw [outE_fst]
      have := ihd (j + 1) (match endW kdT (l.drop p) 1 with | none => 0 | some m => p + m) (acc ++ [(p : Int)]) (by omega) (by rw [List.length_append, List.length_singleton]; omega) (by rw [List.length_append, List.length_singleton]; omega)
      simp only [undP, List.map_cons]
      rw [List.append_assoc] at this
      exact Ev.congr (fun k => by rw [succ_w' (by omega)] <;> rfl) this
   have h0 := loop c 0 (i + 1) [] (by omega) (by simp) (by simp)
   rw [List.nil_append] at h0
   dsimp only
   rw [hc]
   exact Ev.congr (fun k => by simp only [if_true]; rw [succ_w' (by omega)]; rfl) h0
theorem depL_seg {l : List Nd} {m : Nat} (h : endW kdT l 1 = some m) : depL kdT (l.take m) = depL kdT l := by
 have := depL_append kdT (l.take m) (l.drop m) (endW_seg kdT h)
 rw [List.take_append_drop] at this
 exact this.symm
theorem depL_le (l : List Nd) : depL kdT l ≤ l.length := by
 unfold depL
 cases h : endW kdT l 1 with
 | none => exact Nat.zero_le _
 | some m =>
  have hg : ∀ (l : List Nd) (st : List Nat) (most : Nat), mach kdT l st most ≤ max most (st.length + l.length) := by
   intro l
   induction l with
   | nil => intro st most; simp only [mach]; omega
   | cons x l ih =>
    intro st most
    simp only [mach]
    by_cases h0 : (kdT x).toNat = 0
    ·rw [if_pos h0]
     have hdl := dec_len st
     cases hds : dec st with
     | nil => simp only [List.length_cons]; omega
     | cons s st' =>
      simp only []
      have := ih (s :: st') (max most (st.length + 1))
      rw [hds] at hdl
      simp only [List.length_cons] at this hdl ⊢
      omega
    ·rw [if_neg h0]
     have := ih ((kdT x).toNat :: st) (max most (st.length + 1))
     simp only [List.length_cons] at this ⊢
     omega
  have := hg l [] 0
  simp only [List.length_nil] at this ⊢
  omega
theorem Rdeep_eq (l : List Nd) (hl : l.length ≤ 1000000) : ∀ (m i q : Nat), l.length - i < m → endW kdT (l.drop i) 1 = some q → Ev (fun k => reredosref08_deep.f k l (i : Int)) ((depL kdT (l.drop i) : Nat) : Int) := by
 intro m
 induction m with
 | zero => intro i q h; omega
 | succ m ih =>
  intro i q h he
  refine Ev.step (fun k => by rw [reredosref08_deep.f]) (Ev.bind (RUnder_at l hl i) ?_)
  cases hd : l.drop i with
  | nil => rw [hd] at he; cases he
  | cons x r =>
   obtain ⟨hr, hlt, hd2⟩ := rd_drop l i x r hd
   have he2 := he
   rw [hd] at he2
   obtain ⟨k1, k2, k3⟩ := endW_cons kdT he2
   have hdc := depL_cons kdT he2
   have hund : undL l i = undP l (kdT x).toNat (i + 1) := by
    unfold undL
    rw [he]
    simp only [hd]
   rw [hund]
   obtain ⟨t, ht⟩ : ∃ t, (undP l (kdT x).toNat (i + 1)).map (fun n : Nat => (n : Int)) = t := ⟨_, rfl⟩
   have hul : ∀ (c p : Nat), (undP l c p).length = c := by
    intro c
    induction c with
    | zero => intro p; rfl
    | succ c ih => intro p; simp only [undP, List.length_cons, ih]
   have htl : t.length = (kdT x).toNat := by rw [← ht, List.length_map, hul]
   have hb := kdB_bounds x.f0 x.f1
   have hk1 : kdT x = kdB x.f0 x.f1 := rfl
   rw [ht]
   have loop : ∀ (c p j most : Nat) (z : Nat), t.length = j + c → t.drop j = (undP l c p).map (fun n : Nat => (n : Int)) → i < p → endW kdT (l.drop p) c = some z → most ≤ l.length → Ev (fun k => reredosref08_deep.l0 k l (most : Int) t (j : Int)) (((if c = 0 then 1 + most else mach kdT (l.drop p) [c] (1 + most)) : Nat) : Int) := by
    intro c
    induction c with
    | zero =>
     intro p j most z hj hdr hp hz hmo
     rw [if_pos rfl]
     refine Ev.step (f := fun _ => some (((1 + most : Nat)) : Int)) (fun k => ?_) (Ev.now _)
     have hw : wrap64 (1 + (most : Int)) = ((1 + most : Nat) : Int) := by rw [wrap_id (by omega) (by omega)]; omega
     rw [reredosref08_deep.l0, if_neg (by omega), hw]
    | succ c ihc =>
     intro p j most z hj hdr hp hz hmo
     obtain ⟨mm, e1, e2, e3, e4, e5⟩ := endW_split kdT hz
     have hjl : j < t.length := by omega
     have hund : undP l (c + 1) p = p :: undP l c (p + mm) := by simp only [undP]; rw [e1]
     rw [hund, List.map_cons, List.drop_eq_getElem_cons hjl] at hdr
     injection hdr with q1 q2
     have hrd : rd t (j : Int) = (p : Int) := by
      unfold rd
      rw [Int.toNat_natCast, List.getD_eq_getElem?_getD, List.getElem?_eq_getElem hjl]
      exact q1
     rw [List.drop_drop] at e2
     rw [List.length_drop] at e5
     have hdeep := ih p mm (by omega) e1
     have hdl := depL_le (l.drop p)
     rw [List.length_drop] at hdl
     have hrec := ihc (p + mm) (j + 1) (max most (depL kdT (l.drop p))) _ (by omega) q2 (by omega) e2 (by omega)
     have hmf := mach_forest kdT c (1 + most) e1
     rw [depL_seg e1, List.drop_drop] at hmf
     have hmx : max (1 + most) (1 + depL kdT (l.drop p)) = 1 + max most (depL kdT (l.drop p)) := by omega
     rw [hmx] at hmf
     rw [if_neg (by omega), hmf]
     refine Ev.step (f := fun k => (reredosref08_deep.f k l (p : Int)).bind fun t270 => (reredosref08_deep.l0 k l (mx (most : Int) t270) t ((j + 1 : Nat) : Int))) (fun k => ?_) (Ev.bind hdeep ?_)
     ·rw [reredosref08_deep.l0, if_pos (by omega), if_pos (by omega), hrd, succ_w' (by omega)]
     ·rw [mx_nat]
      exact hrec
   have h0 := loop (kdT x).toNat (i + 1) 0 0 (q - 1) (by omega) (by rw [List.drop_zero]; exact ht.symm) (by omega) (by rw [hd2]; exact k3) (by omega)
   rw [hd2] at h0
   rw [hdc]
   exact h0
theorem RDepth_eq (l : List Nd) (hl : l.length ≤ 1000000) : Ev (fun k => reredosref08_Depth.f k l) ((depL kdT l : Nat) : Int) := by
 have e0 : (0 : Int) = ((0 : Nat) : Int) := rfl
 have hE := REnd_at l hl 0
 rw [List.drop_zero, ← e0] at hE
 refine Ev.congr (fun k => by unfold reredosref08_Depth.f; rfl) (Ev.bind hE ?_)
 cases h : endW kdT l 1 with
 | none =>
  have : depL kdT l = 0 := by unfold depL; rw [h]
  rw [this]
  simp only [outE]
  exact Ev.congr (f := fun _ => some 0) (fun k => by simp) (Ev.now _)
 | some m =>
  simp only [outE]
  have := Rdeep_eq l hl (l.length + 1) 0 m (by omega) (by rw [List.drop_zero]; exact h)
  rw [List.drop_zero, ← e0] at this
  exact Ev.congr (fun k => by simp only [if_true]) (Ev.bind this (Ev.now _))
end Go.Proofs.Ytdelccahgchadaa
end
section
namespace Go.Proofs.Ytdelccahgchadaa
open Go.RowKit Go.Lib Go.Proofs.Ytdelccahgchadaa.P Go.Proofs.YtdelccahgchadaaW.PrintWords Go.Proofs.YtdelccahgchadaaW.PrintMore
set_option linter.unusedVariables false
def LRel (l : List Tt) (r : List Nn × PSt) (o : Option (List Nn × Int × Bool)) : Prop :=
 ∃ x, o = some (x, Ps l r.2, !r.2.2) ∧ (r.2.2 = false → x = r.1)
theorem Rexpr0 (l : List Tt) (hl : l.length ≤ 1000) (hsz : ∀ t ∈ l, t.f1.size ≤ 1000) (st : PSt) (hs : st.1 <:+ l) (hb : st.2 = false) : RRel l (exprS (l.length + 1) st) (reredosref09_expr.f l (Ps l st)) :=
 (RFK_ok l hl hsz (l.length + 1)).2.2 st hs hb (meas_suf hs)
theorem Rline0 (l : List Tt) (hl : l.length ≤ 1000) (hsz : ∀ t ∈ l, t.f1.size ≤ 1000) (k : Nat) (hk : 10 ≤ k) : LRel l (lineS (exprS (l.length + 1)) l) (reredosref09_line.f k l) := by
 obtain ⟨k, rfl⟩ : ∃ j, k = j + 4 := ⟨k - 4, by omega⟩
 obtain ⟨E, hE⟩ : ∃ E, E = exprS (l.length + 1) := ⟨_, rfl⟩
 have hex : ∀ st : PSt, st.1 <:+ l → st.2 = false → RRel l (E st) (reredosref09_expr.f l (Ps l st)) := by rw [hE]; exact Rexpr0 l hl hsz
 have hfine : ∀ st : PSt, st.1 <:+ l → Fine st (E st) := by rw [hE]; exact exprS_fine l
 have hbad : ∀ m, E (m, true) = ([], (m, true)) := by rw [hE]; exact exprS_bad _
 have hgood : GoodE E (l.length + 1) := by rw [hE]; exact exprS_good _
 have hROk : ROk l reredosref09_expr.f E (l.length + 1) := ⟨hgood, hbad, fun st hs hb _ => hex st hs hb⟩
 have hcl : ∀ (st : PSt) (c : UInt8), st.1 <:+ l → st.2 = false → RRel l ((E st).1, markS c (E st).2) (reredosref09_closed.f reredosref09_expr.f l (Ps l st) (⟨#[c]⟩ : ByteArray)) := fun st c hs hb => Rclosed0 l hl _ E _ hROk st hs hb (meas_suf hs) c
 rw [← hE]
 clear hE
 have hs0 : ((l, false) : PSt).1 <:+ l := List.suffix_refl _
 have hP0 : Ps l (l, false) = 0 := Ps_all l false
 have hlen : ∀ st : PSt, st.1 <:+ l → (E st).1.length ≤ 1000 := fun st hs => by have h1 := (hfine st hs).2.1; have h2 := hs.length_le; omega
 have hxl : ∀ (st : PSt) (x : List Nn) (b : Bool), st.1 <:+ l → (b = false → x = (E st).1) → (b = true → x.length ≤ 1) → x.length ≤ 10000 := by
  intro st x b hs h1 h2
  cases b with
  | false => rw [h1 rfl]; have := hlen st hs; omega
  | true => have := h2 rfl; omega
 obtain ⟨hkd, htx⟩ := Rkind0 l (l, false) hs0 rfl
 rw [hP0] at hkd htx
 have hlast : LRel l (E (l, false)) ((reredosref09_expr.f l 0).bind fun bt => some (bt.1, bt.2.1, bt.2.2)) := by
  obtain ⟨x, h1, h2, _⟩ := hex (l, false) hs0 rfl
  rw [hP0] at h1
  rw [h1]
  exact ⟨x, rfl, h2⟩
 have hj2n : LRel l (E (l, false)) (reredosref09_line.j2 (k + 2) l false) := by
  rw [reredosref09_line.j2, if_neg (by decide)]
  exact hlast
 unfold reredosref09_line.f
 rw [hkd]
 simp only [Option.bind_some]
 by_cases h2 : kd0 (l, false) = 2
 ·have hk0 : kd0 (l, false) ≠ 0 := by rw [h2]; decide
  have hn1 := (kd0_taken hk0).1
  have hp1 : Ps l (next (l, false)) = 1 := by
   rw [← Ps_next l (by omega) (l, false) hs0 hk0, hP0, wrap_id (by omega) (by omega)]; rfl
  have hi := Rmark0 l (next (l, false)) (hn1.suf hs0) rfl
  rw [hp1] at hi
  rw [if_pos h2, hi 58]
  simp only [Option.bind_some]
  rw [reredosref09_line.j0]
  by_cases hM : isM 58 (next (l, false)) = true
  ·have hk1 : kd0 (next (l, false)) ≠ 0 := by rw [isM_kd hM]; decide
   have hn2 := (hn1.trans (kd0_taken hk1).1).suf hs0
   have hp2 := Ps_two l hl (l, false) hs0 hk0 hk1
   rw [hP0] at hp2
   have hp2 : Ps l (next (next (l, false))) = 2 := hp2.symm.trans (wrap_id (by omega) (by omega))
   obtain ⟨x, c1, c2, c3⟩ := hex (next (next (l, false))) hn2 rfl
   rw [hp2] at c1
   rw [if_pos hM, c1]
   simp only [Option.bind_some]
   rw [htx]
   simp only [Option.bind_some]
   rw [Rnode0 _ _ _ _ _ _ _ _ (hxl _ x _ hn2 c2 c3) (by simp) (by simp)]
   simp only [Option.bind_some, List.append_nil]
   have hl0 : lineS E l = (nd 5 (tx0 (l, false)) :: (E (next (next (l, false)))).1, (E (next (next (l, false)))).2) := by unfold lineS; rw [if_pos ⟨h2, hM⟩]
   rw [hl0]
   exact ⟨_, rfl, fun h => by rw [c2 h]; rfl⟩
  ·rw [if_neg hM, hkd]
   simp only [Option.bind_some]
   rw [if_neg (by rw [h2]; decide), reredosref09_line.j1, if_neg (by decide), hkd]
   simp only [Option.bind_some]
   rw [if_pos h2, hi 91]
   simp only [Option.bind_some]
   by_cases hM2 : isM 91 (next (l, false)) = true
   ·have hk1 : kd0 (next (l, false)) ≠ 0 := by rw [isM_kd hM2]; decide
    have hn2 := (hn1.trans (kd0_taken hk1).1).suf hs0
    have hp2 := Ps_two l hl (l, false) hs0 hk0 hk1
    rw [hP0] at hp2
    have hp2 : Ps l (next (next (l, false))) = 2 := hp2.symm.trans (wrap_id (by omega) (by omega))
    have hsE : (E (next (next (l, false)))).2.1 <:+ l := (hfine _ hn2).taken.suf hn2
    have hsM : (markS 93 (E (next (next (l, false)))).2).1 <:+ l := (markS_taken 93 _).suf hsE
    have hl0 : lineS E l = if isM 58 (markS 93 (E (next (next (l, false)))).2) = true then (nd 6 (tx0 (l, false)) :: ((E (next (next (l, false)))).1 ++ (E (next (markS 93 (E (next (next (l, false)))).2))).1), (E (next (markS 93 (E (next (next (l, false)))).2))).2) else E (l, false) := by
     unfold lineS
     rw [if_neg (fun h => hM h.2), if_neg (fun h => hM h.2)]
     by_cases h58 : isM 58 (markS 93 (E (next (next (l, false)))).2) = true
     ·rw [if_pos ⟨h2, hM2, h58⟩, if_pos h58]
     ·rw [if_neg (fun h => h58 h.2.2), if_neg h58]
    obtain ⟨x, c1, c2, c3⟩ := hcl (next (next (l, false))) 93 hn2 rfl
    rw [hp2] at c1
    have c1 : reredosref09_closed.f reredosref09_expr.f l 2 (⟨#[93]⟩ : ByteArray) = some (x, Ps l (markS 93 (E (next (next (l, false)))).2), !(markS 93 (E (next (next (l, false)))).2).2) := c1
    have c2 : (markS 93 (E (next (next (l, false)))).2).2 = false → x = (E (next (next (l, false)))).1 := c2
    rw [hM2, reredosref09_line.j2, if_pos rfl, c1, hl0]
    simp only [Option.bind_some]
    cases hbb : (markS 93 (E (next (next (l, false)))).2).2 with
    | true =>
     have h58 : isM 58 (markS 93 (E (next (next (l, false)))).2) = false := by unfold isM kd0; rw [hbb]; rfl
     rw [h58, if_neg (by decide), if_neg (by decide), reredosref09_line.j3, if_neg (by decide)]
     exact hlast
    | false =>
     rw [if_pos (show (!false) = true from rfl), Rmark0 l _ hsM hbb 58]
     simp only [Option.bind_some]
     rw [reredosref09_line.j3]
     by_cases h58 : isM 58 (markS 93 (E (next (next (l, false)))).2) = true
     ·have hkm : kd0 (markS 93 (E (next (next (l, false)))).2) ≠ 0 := by rw [isM_kd h58]; decide
      have hsn := (kd0_taken hkm).1.suf hsM
      have hbn : (next (markS 93 (E (next (next (l, false)))).2)).2 = false := hbb
      obtain ⟨y, d1, d2, d3⟩ := hex (next (markS 93 (E (next (next (l, false)))).2)) hsn hbn
      rw [if_pos h58, if_pos h58, Ps_next l (by omega) _ hsM hkm, d1]
      simp only [Option.bind_some]
      rw [htx]
      simp only [Option.bind_some]
      rw [c2 hbb, Rnode0 _ _ _ _ _ _ _ _ (by have := hlen _ hn2; omega) (hxl _ y _ hsn d2 d3) (by simp)]
      simp only [Option.bind_some, List.append_nil]
      exact ⟨_, rfl, fun h => by rw [d2 h]; rfl⟩
     ·rw [if_neg h58, if_neg h58]
      exact hlast
   ·have hM2' : isM 91 (next (l, false)) = false := by simpa using hM2
    rw [hM2']
    have hl0 : lineS E l = E (l, false) := by
     unfold lineS
     rw [if_neg (fun h => hM h.2), if_neg (fun h => hM h.2), if_neg (fun h => hM2 h.2.1)]
    rw [hl0]
    exact hj2n
 ·rw [if_neg h2, reredosref09_line.j0, if_neg (by decide), hkd]
  simp only [Option.bind_some]
  have hj1n : LRel l (E (l, false)) (reredosref09_line.j1 (k + 3) l false) := by
   rw [reredosref09_line.j1, if_neg (by decide), hkd]
   simp only [Option.bind_some]
   rw [if_neg h2]
   exact hj2n
  by_cases h3 : kd0 (l, false) = 3
  ·have hk0 : kd0 (l, false) ≠ 0 := by rw [h3]; decide
   have hn1 := (kd0_taken hk0).1
   have hp1 : Ps l (next (l, false)) = 1 := by
    rw [← Ps_next l (by omega) (l, false) hs0 hk0, hP0, wrap_id (by omega) (by omega)]; rfl
   have hi := Rmark0 l (next (l, false)) (hn1.suf hs0) rfl
   rw [hp1] at hi
   rw [if_pos h3, hi 58]
   simp only [Option.bind_some]
   by_cases hM : isM 58 (next (l, false)) = true
   ·have hk1 : kd0 (next (l, false)) ≠ 0 := by rw [isM_kd hM]; decide
    have hn2 := (hn1.trans (kd0_taken hk1).1).suf hs0
    have hp2 := Ps_two l hl (l, false) hs0 hk0 hk1
    rw [hP0] at hp2
    have hp2 : Ps l (next (next (l, false))) = 2 := hp2.symm.trans (wrap_id (by omega) (by omega))
    have hl0 : lineS E l = (nd 7 (tx0 (l, false)) :: (E (markS 123 (next (next (l, false))))).1, markS 125 (E (markS 123 (next (next (l, false))))).2) := by
     unfold lineS
     rw [if_neg (fun h => h2 h.1), if_pos ⟨h3, hM⟩]
    have hm2 := Rmark0 l (next (next (l, false))) hn2 rfl 123
    rw [hp2] at hm2
    rw [hM, reredosref09_line.j1, if_pos rfl, hm2, hl0]
    simp only [Option.bind_some]
    by_cases h123 : isM 123 (next (next (l, false))) = true
    ·have hk2 : kd0 (next (next (l, false))) ≠ 0 := by rw [isM_kd h123]; decide
     have hn3 := (kd0_taken hk2).1.suf hn2
     have hp3 : Ps l (next (next (next (l, false)))) = 3 := by
      rw [← Ps_next l (by omega) _ hn2 hk2, hp2, wrap_id (by omega) (by omega)]; rfl
     have hmk : markS 123 (next (next (l, false))) = next (next (next (l, false))) := by unfold markS; rw [if_pos h123]
     obtain ⟨x, c1, c2, c3⟩ := hcl (next (next (next (l, false)))) 125 hn3 rfl
     rw [hp3] at c1
     have c1 : reredosref09_closed.f reredosref09_expr.f l 3 (⟨#[125]⟩ : ByteArray) = some (x, Ps l (markS 125 (E (next (next (next (l, false))))).2), !(markS 125 (E (next (next (next (l, false))))).2).2) := c1
     rw [if_pos h123, c1, hmk]
     simp only [Option.bind_some]
     rw [htx]
     simp only [Option.bind_some]
     rw [Rnode0 _ _ _ _ _ _ _ _ (hxl _ x _ hn3 c2 c3) (by simp) (by simp)]
     simp only [Option.bind_some, List.append_nil]
     exact ⟨_, rfl, fun h => by rw [c2 h]; rfl⟩
    ·have hmk : markS 123 (next (next (l, false))) = ((next (next (l, false))).1, true) := by unfold markS; rw [if_neg h123]
     rw [if_neg h123, hmk, hbad]
     have hm5 : markS 125 ((next (next (l, false))).1, true) = ((next (next (l, false))).1, true) := rfl
     simp only [hm5]
     refine ⟨([] : List Nn), ?_, fun h => (by cases h)⟩
     have : Ps l ((next (next (l, false))).1, true) = 2 := hp2
     rw [this]
     rfl
   ·have hM' : isM 58 (next (l, false)) = false := by simpa using hM
    rw [hM']
    have hl0 : lineS E l = E (l, false) := by
     unfold lineS
     rw [if_neg (fun h => hM h.2), if_neg (fun h => hM h.2), if_neg (fun h => h2 h.1)]
    rw [hl0]
    exact hj1n
  ·rw [if_neg h3]
   have hl0 : lineS E l = E (l, false) := by
    unfold lineS
    rw [if_neg (fun h => h2 h.1), if_neg (fun h => h3 h.1), if_neg (fun h => h2 h.1)]
   rw [hl0]
   exact hj1n
end Go.Proofs.Ytdelccahgchadaa
end
section
namespace Go.Proofs.Ytdelccahgchadaa
open Go.RowKit Go.Lib Go.Proofs.Ytdelccahgchadaa.P Go.Proofs.YtdelccahgchadaaW.PrintWords Go.Proofs.YtdelccahgchadaaW.PrintMore
set_option linter.unusedVariables false
theorem RToks0 (l : List Tt) (hl : l.length ≤ 1000) (hsz : ∀ t ∈ l, t.f1.size ≤ 1000) (en : Int) : Ev (fun k => reredosref09_Toks.f k l en) (toksS l en) := by
 have ht := lineS_taken l
 have hs : (lineS (exprS (l.length + 1)) l).2.1 <:+ l := ht.1.1
 have hline : ∀ k, 10 ≤ k → LRel l (lineS (exprS (l.length + 1)) l) (reredosref09_line.f k l) := fun k hk => Rline0 l hl hsz k hk
 unfold toksS
 obtain ⟨⟨n, m, b⟩, hr⟩ : ∃ r, r = lineS (exprS (l.length + 1)) l := ⟨_, rfl⟩
 rw [← hr] at hs ht hline ⊢
 clear hr
 simp only at hs ht
 obtain ⟨K, hD⟩ := RDepth_eq n (by have := ht.2; omega)
 refine ⟨K + 12, fun k hk => ?_⟩
 obtain ⟨k, rfl⟩ : ∃ j, k = j + 1 := ⟨k - 1, by omega⟩
 obtain ⟨x, h1, h2⟩ := hline (k + 1) (by omega)
 have h1 : reredosref09_line.f (k + 1) l = some (x, Ps l (m, b), !b) := h1
 have h2 : b = false → x = n := h2
 have hP := Ps_lt l m b hs
 have hPb := Ps_bounds l (by omega) (m, b)
 show reredosref09_Toks.f (k + 1) l en = _
 unfold reredosref09_Toks.f
 rw [h1, Option.bind_some]
 dsimp only
 have hj : reredosref09_Toks.j0 (k + 1) l en true x (Ps l (m, b)) (!b) = some ([], placeS en m, 2) := by
  rw [reredosref09_Toks.j0, if_pos rfl]
  cases m with
  | nil => rw [if_neg (fun h => hP.1 h rfl)]; rfl
  | cons t r =>
   obtain ⟨hd, hle⟩ := suffix_drop hs
   obtain ⟨g1, g2⟩ := rd_tok l (l.length - (t :: r).length) t r hd
   have : Ps l (t :: r, b) = ((l.length - (t :: r).length : Nat) : Int) := rfl
   rw [if_pos (hP.2 (by simp)), if_pos hPb.1, this, g1]
   rfl
 cases b with
 | true =>
  rw [if_neg (by decide), if_pos (.inl rfl)]
  exact hj
 | false =>
  rw [if_pos (show (!false) = true from rfl), h2 rfl]
  rw [h2 rfl] at hj
  by_cases hm : m = []
  ·subst hm
   have hd : decide (Ps l (([] : List Tt), false) < (l.length : Int)) = false := decide_eq_false (fun h => hP.1 h rfl)
   have hD' : reredosref08_Depth.f k n = some ((depL kdT n : Nat) : Int) := hD k (by omega)
   rw [hd, reredosref09_Toks.j0, if_neg (by decide), hD', Option.bind_some, if_neg (show ¬ (false = true ∨ ([] : List Tt) ≠ []) from fun h => h.elim (fun h => (by cases h)) (fun h => h rfl))]
   by_cases h40 : 40 < depL kdT n
   ·rw [if_pos h40, if_pos (by omega)]
   ·rw [if_neg h40, if_neg (by omega)]
  ·have hd : decide (Ps l (m, false) < (l.length : Int)) = true := decide_eq_true (hP.2 hm)
   rw [hd, if_pos (.inr hm)]
   exact hj
theorem RParse0 (s : ByteArray) : Ev (fun k => reredosref09_Parse.f k s) (parseS s) := by
 unfold parseS
 by_cases hs : 256 < s.size
 ·rw [if_pos hs]
  refine ⟨0, fun k _ => ?_⟩
  show reredosref09_Parse.f k s = _
  unfold reredosref09_Parse.f
  rw [RLex_big s hs k, Option.bind_some, if_neg (by decide)]
 ·rw [if_neg hs]
  obtain ⟨K1, hL⟩ := RLex_eq s (by omega)
  cases h : lexL (L s) with
  | inl e =>
   refine ⟨K1, fun k hk => ?_⟩
   show reredosref09_Parse.f k s = _
   unfold reredosref09_Parse.f
   have hL' : reredosref07_Lex.f k s = _ := hL k hk
   rw [hL', Option.bind_some, h]
   unfold outL
   dsimp only
   rw [if_neg (by decide)]
  | inr ts =>
   obtain ⟨h1, h2⟩ := lexL_small (by omega) h
   obtain ⟨K2, hT⟩ := RToks0 _ h1 h2 (s.size : Int)
   refine ⟨K1 + K2, fun k hk => ?_⟩
   show reredosref09_Parse.f k s = _
   unfold reredosref09_Parse.f
   have hL' : reredosref07_Lex.f k s = _ := hL k (by omega)
   have hT' : reredosref09_Toks.f k (ts.map encT) (s.size : Int) = _ := hT k (by omega)
   rw [hL', Option.bind_some, h]
   unfold outL
   dsimp only
   rw [if_pos rfl, hT', Option.bind_some]
end Go.Proofs.Ytdelccahgchadaa
end
section
namespace Go.Proofs.Ytdelccahgchadaa
open Go.RowKit Go.Lib Go.Proofs.Ytdelccahgchadaa.P Go.Proofs.YtdelccahgchadaaW.PrintWords Go.Proofs.YtdelccahgchadaaW.PrintMore
set_option linter.unusedVariables false
theorem succ_w {i : Nat} (h : i < 9223372036854775807) : wrap64 ((i : Int) + 1) = ((i + 1 : Nat) : Int) := by rw [wrap_id (by omega) (by omega)]; omega
theorem RSame_l1 (a b : List Nd) (i : Nat) (hi : i < a.length) (hib : i < b.length) (hn : a[i].f4.length = b[i].f4.length) (hb : a[i].f4.length ≤ 9223372036854775807) (hia : i < 9223372036854775807) (q : Prop) (r0 : Bool) (h0 : Ev (fun k => reredosref08_Same.l0 k a b ((i + 1 : Nat) : Int)) r0) (h00 : r0 = true ↔ q) :
  ∀ (m j : Nat), a[i].f4.length - j < m → j ≤ a[i].f4.length → ∃ r, Ev (fun k => reredosref08_Same.l1 k a b (i : Int) (j : Int)) r ∧ (r = true ↔ (a[i].f4.drop j = b[i].f4.drop j ∧ q)) := by
 intro m
 induction m with
 | zero => intro j h; omega
 | succ m ih =>
  intro j h hj
  have e : ∀ k, reredosref08_Same.l1 (k + 1) a b (i : Int) (j : Int) = if (j : Int) < (((a[i]).f4).length : Int) then (if (rdOf ByteArray.empty ((a[i]).f4) (j : Int)).toList = (rdOf ByteArray.empty ((b[i]).f4) (j : Int)).toList then (reredosref08_Same.l1 k a b (i : Int) (wrap64 ((j : Int) + 1))) else (some false)) else (reredosref08_Same.l0 k a b (wrap64 ((i : Int) + 1))) := by
   intro k
   rw [reredosref08_Same.l1, rd_get a i hi, rd_get b i hib, if_pos (by omega), if_pos (by omega)]
   by_cases hlt : (j : Int) < (((a[i]).f4).length : Int)
   ·rw [if_pos hlt, if_pos hlt, if_pos (by omega), if_pos (by omega), if_pos (by omega)]
   ·rw [if_neg hlt, if_neg hlt]
  by_cases hlt : j < a[i].f4.length
  ·rw [List.drop_eq_getElem_cons hlt, List.drop_eq_getElem_cons (show j < b[i].f4.length by omega)]
   by_cases he : (a[i].f4[j]).toList = (b[i].f4[j]'(by omega)).toList
   ·obtain ⟨r, h1, h2⟩ := ih (j + 1) (by omega) (by omega)
    refine ⟨r, Ev.step (f := fun k => reredosref08_Same.l1 k a b (i : Int) ((j + 1 : Nat) : Int)) (fun k => ?_) h1, h2.trans ⟨fun h3 => ⟨by rw [h3.1, toList_inj.1 he], h3.2⟩, fun h3 => ⟨by injection h3.1, h3.2⟩⟩⟩
    show reredosref08_Same.l1 (k + 1) a b (i : Int) (j : Int) = _
    rw [e, if_pos (by omega), rdS_get _ j hlt, rdS_get _ j (by omega), if_pos he, succ_w (by omega)]
   ·refine ⟨false, Ev.step (f := fun k => some false) (fun k => ?_) (Ev.now _), ⟨fun h3 => (by cases h3), fun h3 => by injection h3.1 with h4 h5; exact absurd (toList_inj.2 h4) he⟩⟩
    show reredosref08_Same.l1 (k + 1) a b (i : Int) (j : Int) = _
    rw [e, if_pos (by omega), rdS_get _ j hlt, rdS_get _ j (by omega), if_neg he]
  ·refine ⟨r0, Ev.step (fun k => ?_) h0, h00.trans ⟨fun h3 => ⟨by rw [List.drop_eq_nil_of_le (by omega), List.drop_eq_nil_of_le (by omega)], h3⟩, fun h3 => h3.2⟩⟩
   show reredosref08_Same.l1 (k + 1) a b (i : Int) (j : Int) = _
   rw [e, if_neg (by omega), succ_w hia]
theorem RSame_l0 (a b : List Nd) (hl : a.length = b.length) (hla : a.length ≤ 9223372036854775807) (hn : ∀ x ∈ a, x.f4.length ≤ 9223372036854775807) : ∀ (m i : Nat), a.length - i < m → i ≤ a.length → ∃ r, Ev (fun k => reredosref08_Same.l0 k a b (i : Int)) r ∧ (r = true ↔ a.drop i = b.drop i) := by
 intro m
 induction m with
 | zero => intro i h; omega
 | succ m ih =>
  intro i h hi
  by_cases hlt : i < a.length
  ·have hib : i < b.length := by omega
   rw [List.drop_eq_getElem_cons hlt, List.drop_eq_getElem_cons hib]
   have hj : ∀ k c, reredosref08_Same.j1 (k + 1) a b (i : Int) c = if c = true then some false else reredosref08_Same.l1 k a b (i : Int) 0 := by intro k c; rw [reredosref08_Same.j1]
   have hno : ∀ k, reredosref08_Same.j1 (k + 1) a b (i : Int) true = some false := fun k => by rw [hj, if_pos rfl]
   have e : ∀ k, reredosref08_Same.l0 (k + 1) a b (i : Int) = if a[i].f0 = b[i].f0 then (if a[i].f1.toList = b[i].f1.toList then (if a[i].f2.toList = b[i].f2.toList then (if a[i].f3.toList = b[i].f3.toList then (reredosref08_Same.j1 k a b (i : Int) ((a[i].f4.length : Int) != (b[i].f4.length : Int))) else (reredosref08_Same.j1 k a b (i : Int) true)) else (reredosref08_Same.j1 k a b (i : Int) true)) else (reredosref08_Same.j1 k a b (i : Int) true)) else (reredosref08_Same.j1 k a b (i : Int) true) := by
    intro k
    rw [reredosref08_Same.l0, rd_get a i hlt, rd_get b i hib, if_pos (by omega), if_pos (by omega), if_pos (by omega)]
   have hfalse : (∀ k, reredosref08_Same.l0 (k + 1) a b (i : Int) = reredosref08_Same.j1 k a b (i : Int) true) → ¬ (a[i] = b[i]) → ∃ r, Ev (fun k => reredosref08_Same.l0 k a b (i : Int)) r ∧ (r = true ↔ a[i] :: a.drop (i + 1) = b[i] :: b.drop (i + 1)) := fun h1 h2 =>
    ⟨false, Ev.step h1 (Ev.step (f := fun _ => some false) (fun k => hno k) (Ev.now _)), ⟨fun h3 => (by cases h3), fun h3 => by injection h3 with h4 h5; exact absurd h4 h2⟩⟩
   by_cases c0 : a[i].f0 = b[i].f0
   ·by_cases c1 : a[i].f1.toList = b[i].f1.toList
    ·by_cases c2 : a[i].f2.toList = b[i].f2.toList
     ·by_cases c3 : a[i].f3.toList = b[i].f3.toList
      ·by_cases c4 : a[i].f4.length = b[i].f4.length
       ·obtain ⟨r0, h0, h00⟩ := ih (i + 1) (by omega) (by omega)
        obtain ⟨r, h1, h2⟩ := RSame_l1 a b i hlt hib c4 (hn _ (List.getElem_mem hlt)) (by omega) (a.drop (i + 1) = b.drop (i + 1)) r0 h0 h00 (a[i].f4.length + 1) 0 (by omega) (by omega)
        have ev2 : Ev (fun k => reredosref08_Same.j1 k a b (i : Int) ((a[i].f4.length : Int) != (b[i].f4.length : Int))) r := Ev.step (fun k => by
         show reredosref08_Same.j1 (k + 1) a b (i : Int) ((a[i].f4.length : Int) != (b[i].f4.length : Int)) = reredosref08_Same.l1 k a b (i : Int) ((0 : Nat) : Int)
         rw [hj, if_neg (by rw [c4]; simp)]; rfl) h1
        refine ⟨r, Ev.step (fun k => by
         show reredosref08_Same.l0 (k + 1) a b (i : Int) = _
         rw [e, if_pos c0, if_pos c1, if_pos c2, if_pos c3]) ev2, h2.trans ⟨fun h3 => ?_, fun h3 => ?_⟩⟩
        ·rw [List.drop_zero, List.drop_zero] at h3
         rw [h3.2, Nd_ext c0 (toList_inj.1 c1) (toList_inj.1 c2) (toList_inj.1 c3) h3.1]
        ·injection h3 with h4 h5
         exact ⟨by rw [h4], h5⟩
       ·refine ⟨false, Ev.step (f := fun k => reredosref08_Same.j1 k a b (i : Int) ((a[i].f4.length : Int) != (b[i].f4.length : Int))) (fun k => by
         show reredosref08_Same.l0 (k + 1) a b (i : Int) = _
         rw [e, if_pos c0, if_pos c1, if_pos c2, if_pos c3]) (Ev.step (f := fun _ => some false) (fun k => by
         show reredosref08_Same.j1 (k + 1) a b (i : Int) _ = _
         rw [hj, if_pos (by rw [bne_iff_ne]; omega)]) (Ev.now _)), ⟨fun h3 => (by cases h3), fun h3 => by injection h3 with h4 h5; exact absurd (by rw [h4]) c4⟩⟩
      ·exact hfalse (fun k => by rw [e, if_pos c0, if_pos c1, if_pos c2, if_neg c3]) (fun h => c3 (by rw [h]))
     ·exact hfalse (fun k => by rw [e, if_pos c0, if_pos c1, if_neg c2]) (fun h => c2 (by rw [h]))
    ·exact hfalse (fun k => by rw [e, if_pos c0, if_neg c1]) (fun h => c1 (by rw [h]))
   ·exact hfalse (fun k => by rw [e, if_neg c0]) (fun h => c0 (by rw [h]))
  ·rw [List.drop_eq_nil_of_le (by omega), List.drop_eq_nil_of_le (by omega)]
   refine ⟨true, Ev.step (f := fun _ => some true) (fun k => ?_) (Ev.now _), by simp⟩
   show reredosref08_Same.l0 (k + 1) a b (i : Int) = _
   rw [reredosref08_Same.l0, if_neg (by omega)]
theorem RSame_eq (a b : List Nd) (hla : a.length ≤ 9223372036854775807) (hn : ∀ x ∈ a, x.f4.length ≤ 9223372036854775807) : ∃ r, Ev (fun k => reredosref08_Same.f k a b) r ∧ (r = true ↔ a = b) := by
 by_cases h : (a.length : Int) = (b.length : Int)
 ·obtain ⟨r, h1, h2⟩ := RSame_l0 a b (by omega) hla hn (a.length + 1) 0 (by omega) (by omega)
  exact ⟨r, Ev.congr (fun k => by show reredosref08_Same.f k a b = reredosref08_Same.l0 k a b ((0 : Nat) : Int); unfold reredosref08_Same.f; rw [if_pos h]; rfl) h1, h2⟩
 ·exact ⟨false, Ev.congr (f := fun _ => some false) (fun k => by show reredosref08_Same.f k a b = _; unfold reredosref08_Same.f; rw [if_neg h]) (Ev.now _), ⟨fun h3 => (by cases h3), fun h3 => absurd (by rw [h3]) h⟩⟩
end Go.Proofs.Ytdelccahgchadaa
end
section
namespace Go.Proofs.Ytdelccahgchadaa.Pure
open Go.RowKit Go.Proofs.Ytdelccahgchadaa Go.Proofs.Ytdelccahgchadaa.P Go.Proofs.YtdelccahgchadaaW.PrintWords Go.Proofs.YtdelccahgchadaaW.PrintMore
set_option linter.unusedVariables false
theorem ParseTells : reredoslaw09_ParseTells.Pure := by
 intro s hs
 obtain ⟨K1, R1⟩ := RParse0 s
 have hf := parseS_few s
 obtain ⟨r, ⟨K2, R2⟩, hr⟩ := RSame_eq (parseS s).1 (parseS s).1 (Nat.le_trans hf.2 (by decide)) (fun x hx => Nat.le_trans (hf.1 x hx) (by decide))
 have hrt : r = true := hr.2 rfl
 obtain ⟨K, hK⟩ : ∃ K : Nat, K1 + K2 + 10000 < K := ⟨K1 + K2 + 10001, by omega⟩
 refine ⟨K, ?_⟩
 have R1' : reredosref09_Parse.f K s = _ := R1 K (by omega)
 have R2' : reredosref08_Same.f K (parseS s).1 (parseS s).1 = some r := R2 K (by omega)
 unfold reredoslaw09_ParseTells.f
 rw [shown09_eq K (by omega), Option.bind_some]
 by_cases h : (s.size : Int) > 600
 ·rw [if_pos h]
 ·rw [if_neg h, Parse0 s K (by omega), Option.bind_some, R1', Option.bind_some, if_pos rfl, R2', Option.bind_some, if_pos hrt, if_pos rfl]
  simp
end Go.Proofs.Ytdelccahgchadaa.Pure
end
section
namespace Go.Proofs.Ytdelccahgchadaa.parseTells
open Go.ChangeShapes Go.WideShapes Go.ChangeAt Go.RowKit Go.Proofs.YtdelccahgchadaaW.PrintWords Go.Proofs.Ytdelccahgchadaa.P
open Go.ChangeMaps (open_string shut_string)
set_option linter.unusedVariables false
theorem own : ownKnob Try.prog.godebug = none := by kernel_rfl
theorem laidOut : laidOutB Try.prog = true := by kernel_rfl
set_option maxRecDepth 100000 in
theorem lifted (os : Os) (started : os.Started) (H : Type) (enc : TypeId × Value → H) :
    ReturnsInHanded {} Try.checked os 7 .any (Rows.parseTellsSpec.pre6 enc Try.prog Try.f7 Rows.parseTellsRow.domain false) (Rows.parseTellsSpec.post enc Try.prog Try.f7 false true false false) := by
  refine returnsInHanded_of_change_sized (C := Try.checked) own started (by kernel_rfl) Try.func7
    (ChangeSpec.witness6 (enc := enc) (C := Try.checked) false ⟨#[], #[.string ByteArray.empty], []⟩ 8 (by kernel_rfl) (by kernel_rfl) (by kernel_rfl) (by kernel_rfl)) ?_
  intro W base args ds gs before hval0 hW hcnd hsz0 _
  have hsz : (DataW.weightsEach Try.prog (Try.f7.params.toList ++ Rows.parseTellsSpec.plain.varTypes Try.prog) (ds ++ gs)).all (· ≤ reachBytes) = true := hsz0
  have hval : ∀ (j : Nat) t v, Try.f7.params[j]? = some t → args[j]? = some v → Value.okWide Try.prog W .any base t v := hval0
  have hW' := hW
  obtain ⟨p, q, hA0, hV, rfl, hfz, hnd⟩ := hW
  have hA : DataW.TrodAll enc Try.prog W 0 (fun _ => true) true Try.f7.params.toList args.toList ds p := hA0
  rw [Try.params7] at hA hval hsz
  obtain ⟨v0, vs0, d0, ds0, p0, q0, hargs, rfl, rfl, h0, r0⟩ := trodAll_cons hA
  obtain ⟨rfl, rfl, rfl⟩ := trodAll_nil r0
  obtain rfl : args = #[v0] := by cases args; simp_all
  obtain ⟨rfl, rfl⟩ := trodVars_none hV
  obtain ⟨a0, rfl, rfl, rfl, y0⟩ := open_string Try.underlying9 (hval 0 9 v0 rfl rfl) h0
  have w0 : a0.size ≤ 140737488351232 := by
    have z := sized_string hsz (j := 0) (t := 9) rfl rfl
    rw [Array.length_toList] at z
    exact z
  clear hA0 hval0 hsz0 hsz
  obtain ⟨k_, hp_⟩ := Pure.ParseTells a0 w0
  refine (reredoslaw09_ParseTells.calls k_ a0 true W  hp_).mono fun e W' hpost => ?_
  obtain ⟨he, bel0⟩ := hpost
  have bel : Below W.heap.size W W' := by first | exact bel0 | exact bel0.below
  subst he
  exact ⟨_, rfl, _, _, _, [], _, [], hW', trodAll_mk1 (shut_bool Try.underlying4 _), (trodAll_cons_mk (shut_string Try.underlying9 y0) trodAll_mk0), rfl, bel.frame _, fun h => by cases h⟩
theorem over : Rows.parseTellsRow.holds Try.pinned (OpenSpec.ofChange Rows.parseTellsSpec) :=
  OpenClaim.holds_of_wide 7 Try.f7 rfl rfl rfl rfl rfl rfl rfl ⟨rfl, rfl, rfl, rfl, rfl⟩ rfl rfl rfl rfl rfl (by kernel_rfl) Try.func7 (by kernel_rfl)
    (of_decide_eq_true (by kernel_rfl)) (by unfold Func.isWrapper; first | (rw [if_pos (by decide +kernel)]; kernel_rfl) | (rw [if_neg (by decide +kernel)]; exact ⟨rfl, rfl⟩))
    (fun os started H enc _ => lifted os started H enc)
theorem proved : Rows.ParseTellsSaid := over
#print axioms proved
end Go.Proofs.Ytdelccahgchadaa.parseTells
namespace Go.Proofs.Ytdelccahgchadaa
theorem parseTells_holds : Rows.ParseTellsSaid := parseTells.proved
end Go.Proofs.Ytdelccahgchadaa
end
