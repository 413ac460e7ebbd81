/- The law TypedBytes: its row, proved; all that it rests on stands in the texts ahead of it. No conditions. -/
import Derived.Test.YthcijldahbalcaaDoorKTypedBytes2
import Derived.Lib.ParseIntBTie
import Derived.Lib.ParseIntBCases
import Derived.Lib.ItoaLen
import Derived.Lib.ItoaNum
import Derived.Laws.BitsAllLaws
import Derived.Test.YthcijldahbalcaaDoorTie
import Derived.Test.YthcijldahbalcaaDoorCards
import Derived.ProofKit
import Derived.OpenShut
import Derived.ShutString
import Derived.ChangeOld
import Derived.SizedLaws
import Derived.Handed
import Derived.MakeChecks
import Derived.Lay
import Derived.LaidOnce
import Derived.SevenTiedAt
set_option linter.unusedVariables false
set_option linter.unusedSimpArgs false
section
namespace Go.Proofs.YthcijldahbalcaaDoor
open Go.RowKit Go.Lib Go.Proofs.YthcijldahbalcaaDoor.P Go.Proofs.YthcijldahbalcaaDoorW.PrintWords Go.Proofs.YthcijldahbalcaaDoorW.PrintMore
set_option linter.unusedVariables false
abbrev Bs := List UInt8
abbrev L (s : ByteArray) : Bs := s.data.toList
theorem L_size (s : ByteArray) : s.size = (L s).length := by simp
theorem L_ext {a b : ByteArray} (h : L a = L b) : a = b := by
 cases a; cases b; congr 1; exact Array.toList_inj.1 h
theorem L_mk (l : Bs) : L ⟨l.toArray⟩ = l := rfl
theorem L_bt (s : ByteArray) (i : Nat) (h : i < (L s).length) : bt s (i : Int) = ((L s)[i].toNat : Int) := by
 unfold bt
 rw [dif_pos (by simpa using h)]
 rfl
theorem toList_L (s : ByteArray) : s.toList = L s := Go.ByteArray.toList_eq s
def trimC (c : UInt8) : Bs → Bs
 | [] => []
 | x :: l => if x = c then l else x :: l
theorem trimC_eq (c : UInt8) (l : Bs) : Lib.trimPrefix l [c] = trimC c l := by
 unfold Lib.trimPrefix Lib.hasPrefix
 cases l with
 | nil => rfl
 | cons x l =>
  by_cases h : x = c
  ·subst h; simp [trimC]
  ·have h2 : ¬ c = x := fun h2 => h h2.symm
   simp [trimC, h, h2]
def figs (l : Bs) : Bool := l.all isFig
def mayB (l : Bs) : Bool :=
 let f := trimC 45 l
 decide (1 ≤ f.length) && decide (f.length ≤ 100) && (!(f.head? == some 48) || l == [48]) && figs f
abbrev mkB (l : Bs) : ByteArray := ⟨l.toArray⟩
theorem trimP (s : ByteArray) (c : UInt8) : strings_TrimPrefix.f s ⟨#[c]⟩ = some (mkB (trimC c (L s))) := by
 unfold strings_TrimPrefix.f
 have : (⟨#[c]⟩ : ByteArray).data.toList = [c] := rfl
 rw [this, trimC_eq]
theorem mkB_size (l : Bs) : (mkB l).size = l.length := by simp [ByteArray.size]
theorem bt_head (c : UInt8) (l : Bs) : bt (mkB (c :: l)) 0 = (c.toNat : Int) := by
 have := L_bt (mkB (c :: l)) 0 (by simp)
 exact this
theorem allFig_L (s : ByteArray) : allFig s = figs (L s) := rfl
theorem byte_iff (c d : UInt8) : ((c.toNat : Int) = (d.toNat : Int)) ↔ c = d := by
 constructor
 ·intro h; exact UInt8.toNat_inj.1 (by omega)
 ·rintro rfl; rfl
theorem May_eq (s : ByteArray) : num_May.f s = some (mayB (L s)) := by
 unfold num_May.f mayB
 rw [trimP]
 simp only [Option.bind_some, mkB_size]
 obtain ⟨f, hf⟩ : ∃ f, trimC 45 (L s) = f := ⟨_, rfl⟩
 rw [hf]
 cases f with
 | nil => simp
 | cons c f =>
  rw [if_neg (by rw [List.length_cons]; omega)]
  by_cases h : (c :: f).length ≤ 100
  ·rw [if_neg (by omega), if_pos (by rw [List.length_cons]; omega), bt_head]
   unfold ContainsFunc_May.f
   rw [allFig_L, L_mk]
   have e1 : decide (1 ≤ (c :: f).length) = true := by simp
   have e2 : decide ((c :: f).length ≤ 100) = true := by simpa using h
   rw [e1, e2]
   by_cases hc : c = 48
   ·subst hc
    rw [if_pos (by decide), toList_L]
    by_cases h0 : L s = [48]
    ·rw [if_pos h0, h0]; simp
    ·rw [if_neg h0]
     have : (L s == [48]) = false := by simpa using h0
     rw [this]; simp
   ·have hne : ¬ ((c.toNat : Int) = 48) := fun h' => hc ((byte_iff c 48).1 h')
    rw [if_neg hne]
    have : ((c :: f).head? == some 48) = false := by simpa using hc
    rw [this]; simp
  ·rw [if_pos (by omega)]
   have e2 : decide ((c :: f).length ≤ 100) = false := by simpa using h
   rw [e2]; simp
theorem isFig_iff (c : UInt8) : isFig c = true ↔ 48 ≤ c.toNat ∧ c.toNat ≤ 57 := by
 unfold isFig; simp
def Told {α : Type} (e : NumEnd α) : Prop := (∃ v, e = .ok v) ∨ e = .range
theorem pu_figs (M : Nat) : ∀ (l : Bs) (acc : Nat), figs l = true → Told (parseUintM M acc l)
 | [], acc, _ => .inl ⟨acc, by simp [parseUintM]⟩
 | c :: l, acc, h => by
  unfold figs at h
  rw [List.all_cons, Bool.and_eq_true] at h
  unfold parseUintM
  rw [if_pos ((isFig_iff c).1 h.1)]
  split
  ·exact .inr rfl
  ·split
   ·exact .inr rfl
   ·exact pu_figs M l _ h.2
theorem pub_figs (l : Bs) (h0 : l ≠ []) (h : figs l = true) : Told (parseUintB 64 l) := by
 unfold parseUintB
 rw [if_neg h0]
 exact pu_figs _ l 0 h
theorem signless_syn {C : Nat} {e : NumEnd Nat} (h : Told e) : Told (signlessC C e) := by
 rcases h with ⟨u, rfl⟩ | rfl
 ·simp only [signlessC]
  split
  ·exact .inr rfl
  ·exact .inl ⟨_, rfl⟩
 ·exact .inr rfl
theorem signed_syn {C : Nat} {e : NumEnd Nat} (h : Told e) : Told (signedC C e) := by
 rcases h with ⟨u, rfl⟩ | rfl
 ·simp only [signedC]
  split
  ·exact .inr rfl
  ·exact .inl ⟨_, rfl⟩
 ·exact .inr rfl
theorem pi_may (l : Bs) (h : mayB l = true) : Told (parseIntB 64 l) := by
 unfold mayB at h
 simp only [Bool.and_eq_true, decide_eq_true_eq] at h
 obtain ⟨⟨⟨h1, _⟩, _⟩, h4⟩ := h
 cases l with
 | nil => simp [trimC] at h1
 | cons c l =>
  by_cases hc : c = 45
  ·subst hc
   have ht : trimC 45 (45 :: l) = l := by simp [trimC]
   rw [ht] at h1 h4
   rw [parseIntB_minus]
   exact signed_syn (pub_figs l (by rintro rfl; simp at h1) h4)
  ·have ht : trimC 45 (c :: l) = c :: l := by simp [trimC, hc]
   rw [ht] at h4
   have hf := h4
   unfold figs at hf
   rw [List.all_cons, Bool.and_eq_true] at hf
   have hr := (isFig_iff c).1 hf.1
   rw [parseIntB_plain 64 c l (by omega) (by omega)]
   exact signless_syn (pub_figs (c :: l) (by simp) h4)
def intB (s : ByteArray) : Int × Bool := if mayB (L s) = true then (match parseIntB 64 (L s) with | .ok v => (v, true) | _ => (0, false)) else (0, false)
theorem Int_eq (s : ByteArray) (hs : s.size ≤ 281474976710656) : num_Int.f s = some (intB s) := by
 unfold num_Int.f intB
 rw [May_eq, Option.bind_some]
 by_cases h : mayB (L s) = true
 ·rw [if_pos h, if_pos h, if_pos hs]
  have hp := pi_may (L s) h
  have e : s.data.toList = L s := rfl
  rw [e]
  rcases hp with ⟨v, hq⟩ | hq
  ·rw [hq]
  ·rw [hq]
 ·rw [if_neg h, if_neg h]
theorem fits_some (x : Int) : (∃ b, width_Fits.f 10 x 8 = some b) ∧ (∃ b, width_Fits.f 10 x 16 = some b) ∧ (∃ b, width_Fits.f 10 x 32 = some b) ∧ (∃ b, width_Fits.f 10 x 64 = some b) ∧ (∃ b, width_Fits.f 10 x 128 = some b) := by
 refine ⟨?_, ?_, ?_, ?_, ?_⟩ <;> simp (config := { decide := true }) only [width_Fits.f, width_Fits.j0, if_true, if_false]
 all_goals first | exact ⟨_, rfl⟩ | (rw [if_pos (by unfold wrap64; omega)]; split <;> exact ⟨_, rfl⟩)
theorem ofC_some (x : Int) : ∃ r, ofC x 7 0 = some r ∧ 8 ≤ r ∧ r ≤ 128 := by
 obtain ⟨⟨b1, h1⟩, ⟨b2, h2⟩, ⟨b3, h3⟩, ⟨b4, h4⟩, ⟨b5, h5⟩⟩ := fits_some x
 simp only [ofC]
 rw [if_pos trivial, h1, Option.bind_some]
 cases b1 with
 | true => exact ⟨_, rfl, by decide, by decide⟩
 | false =>
  rw [if_neg (by decide), if_neg (by decide), if_pos trivial, h2, Option.bind_some]
  cases b2 with
  | true => exact ⟨_, rfl, by decide, by decide⟩
  | false =>
   rw [if_neg (by decide), if_neg (by decide), if_neg (by decide), if_pos trivial, h3, Option.bind_some]
   cases b3 with
   | true => exact ⟨_, rfl, by decide, by decide⟩
   | false =>
    rw [if_neg (by decide), if_neg (by decide), if_neg (by decide), if_neg (by decide), if_pos trivial, h4, Option.bind_some]
    cases b4 with
    | true => exact ⟨_, rfl, by decide, by decide⟩
    | false =>
     rw [if_neg (by decide), if_neg (by decide), if_neg (by decide), if_neg (by decide), if_neg (by decide), if_pos trivial, h5, Option.bind_some]
     cases b5 with
     | true => exact ⟨_, rfl, by decide, by decide⟩
     | false =>
      rw [if_neg (by decide), if_neg (by decide), if_neg (by decide), if_neg (by decide), if_neg (by decide), if_neg (by decide), if_pos trivial]
      exact ⟨_, rfl, by decide, by decide⟩
def widB (s : ByteArray) : Int := (width_Of.f s).getD 0
theorem Of_eq (s : ByteArray) (hs : s.size ≤ 281474976710656) : width_Of.f s = some (widB s) ∧ 8 ≤ widB s ∧ widB s ≤ 128 := by
 have key : ∃ r, width_Of.f s = some r ∧ 8 ≤ r ∧ r ≤ 128 := by
  unfold width_Of.f
  rw [Int_eq s hs, Option.bind_some]
  by_cases h : (intB s).2 = true
  ·rw [if_pos h]; exact ofC_some _
  ·rw [if_neg h]; exact ⟨_, rfl, by decide, by decide⟩
 obtain ⟨r, h, h1, h2⟩ := key
 unfold widB
 rw [h]
 exact ⟨rfl, h1, h2⟩
theorem pu_snoc (M : Nat) (c : UInt8) (hc : 48 ≤ c.toNat ∧ c.toNat ≤ 57) : ∀ (l : Bs) (acc u : Nat), parseUintM M acc l = .ok u → u < 1844674407370955162 → u * 10 + (c.toNat - 48) ≤ M →
  parseUintM M acc (l ++ [c]) = .ok (u * 10 + (c.toNat - 48))
 | [], acc, u, h, h1, h2 => by
  simp only [parseUintM] at h
  injection h with h
  subst h
  rw [List.nil_append]
  unfold parseUintM
  rw [if_pos hc, if_neg (by omega), if_neg (by omega)]
  rfl
 | d :: l, acc, u, h, h1, h2 => by
  rw [List.cons_append]
  unfold parseUintM at h ⊢
  split at h
  ·rename_i hd
   rw [if_pos hd]
   split at h
   ·cases h
   ·rename_i h3
    rw [if_neg h3]
    split at h
    ·cases h
    ·rename_i h4
     rw [if_neg h4]
     exact pu_snoc M c hc l _ u h h1 h2
  ·cases h
theorem fig_of (n : Nat) (h : n < 10) : (UInt8.ofNat (48 + n)).toNat = 48 + n := by
 simp [UInt8.toNat_ofNat']; omega
theorem dec_all : ∀ (n u : Nat), u ≤ n → u < 18446744073709551616 → parseUintM 18446744073709551615 0 (decDigits u) = .ok u ∧ figs (decDigits u) = true ∧ 1 ≤ (decDigits u).length ∧ (u ≠ 0 → (decDigits u).head? ≠ some 48) := by
 intro n
 induction n with
 | zero =>
  intro u hu _
  obtain rfl : u = 0 := by omega
  rw [decDigits, dif_pos (by omega)]
  exact ⟨by decide, by decide, by decide, fun h => absurd rfl h⟩
 | succ n ih =>
  intro u hu hlt
  rw [decDigits]
  by_cases h : u < 10
  ·rw [dif_pos h]
   have ht := fig_of u h
   refine ⟨?_, ?_, by simp, ?_⟩
   ·unfold parseUintM
    rw [ht, if_pos (by omega), if_neg (by omega), if_neg (by omega)]
    unfold parseUintM
    rw [show 0 * 10 + (48 + u - 48) = u by omega]
   ·unfold figs
    rw [List.all_cons, List.all_nil, Bool.and_true, isFig_iff, ht]
    omega
   ·intro h0 he
    simp only [List.head?_cons, Option.some.injEq] at he
    have := congrArg UInt8.toNat he
    rw [ht] at this
    have e : (48 : UInt8).toNat = 48 := rfl
    omega
  ·rw [dif_neg h]
   obtain ⟨q1, q2, q3, q4⟩ := ih (u / 10) (by omega) (by omega)
   have ht := fig_of (u % 10) (by omega)
   refine ⟨?_, ?_, by simp, ?_⟩
   ·have := pu_snoc 18446744073709551615 (UInt8.ofNat (48 + u % 10)) (by omega) (decDigits (u / 10)) 0 (u / 10) q1 (by omega) (by omega)
    rw [this, ht]
    congr 1
    omega
   ·unfold figs at q2 ⊢
    rw [List.all_append, q2, Bool.true_and, List.all_cons, List.all_nil, Bool.and_true, isFig_iff, ht]
    omega
   ·intro _
    have : (decDigits (u / 10)) ≠ [] := by intro he; rw [he] at q3; simp at q3
    cases hdd : decDigits (u / 10) with
    | nil => exact absurd hdd this
    | cons c l =>
     rw [hdd] at q4
     rw [List.cons_append, List.head?_cons]
     exact q4 (by omega)
def decB (n : Int) : ByteArray := ⟨(itoa n).toArray⟩
theorem L_decB (n : Int) : L (decB n) = itoa n := rfl
theorem decB_size (n : Int) (h0 : -9223372036854775808 ≤ n) (h1 : n ≤ 9223372036854775807) : (decB n).size ≤ 21 := by
 rw [L_size, L_decB]; exact itoa_length_le n h0 h1
theorem numOf_eq (n : Int) (h0 : -9223372036854775808 ≤ n) (h1 : n ≤ 9223372036854775807) : num_Of.f n = some (decB n) := by
 unfold num_Of.f; rw [if_pos ⟨h0, h1⟩]; rfl
theorem may_dec (u : Nat) (h : u < 18446744073709551616) : mayB (decDigits u) = true ∧ parseUintB 64 (decDigits u) = .ok u := by
 obtain ⟨q1, q2, q3, q4⟩ := dec_all u u (Nat.le_refl _) h
 have hne : decDigits u ≠ [] := by intro he; rw [he] at q3; simp at q3
 constructor
 ·have ht : trimC 45 (decDigits u) = decDigits u := by
   cases hd : decDigits u with
   | nil => rfl
   | cons c l =>
    rw [hd] at q2
    unfold figs at q2
    rw [List.all_cons, Bool.and_eq_true, isFig_iff] at q2
    have : ¬ c = 45 := by rintro rfl; revert q2; simp
    simp [trimC, this]
  have hl := nDigits_le20 u h
  unfold mayB
  simp only [ht, q2, Bool.and_true, Bool.and_eq_true, decide_eq_true_eq]
  refine ⟨⟨q3, by rw [decDigits_length]; omega⟩, ?_⟩
  by_cases h0 : u = 0
  ·subst h0
   have e : decDigits 0 = [48] := by rw [decDigits, dif_pos (by omega)]; rfl
   rw [e]
   decide
  ·have := q4 h0
   simp [this]
 ·unfold parseUintB
  rw [if_neg hne]
  exact q1
theorem may_itoa (n : Int) (h0 : -9223372036854775808 ≤ n) (h1 : n ≤ 9223372036854775807) : mayB (itoa n) = true ∧ parseIntB 64 (itoa n) = .ok n := by
 unfold itoa
 by_cases hn : n < 0
 ·rw [if_pos hn]
  obtain ⟨m1, m2⟩ := may_dec n.natAbs (by omega)
  obtain ⟨q1, q2, q3, q4⟩ := dec_all n.natAbs n.natAbs (Nat.le_refl _) (by omega)
  constructor
  ·have ht : trimC 45 (45 :: decDigits n.natAbs) = decDigits n.natAbs := by simp [trimC]
   have hl := nDigits_le20 n.natAbs (by omega)
   unfold mayB
   simp only [ht, q2, Bool.and_true, Bool.and_eq_true, decide_eq_true_eq]
   refine ⟨⟨q3, by rw [decDigits_length]; omega⟩, ?_⟩
   have := q4 (by omega)
   simp [this]
  ·rw [parseIntB_minus, m2]
   have hp : (2 : Nat) ^ (64 - 1) = 9223372036854775808 := by decide
   simp only [signedC]
   rw [if_neg (by omega)]
   congr 1
   omega
 ·rw [if_neg hn]
  obtain ⟨m1, m2⟩ := may_dec n.toNat (by omega)
  refine ⟨m1, ?_⟩
  cases hd : decDigits n.toNat with
  | nil =>
   obtain ⟨q1, q2, q3, q4⟩ := dec_all n.toNat n.toNat (Nat.le_refl _) (by omega)
   rw [hd] at q3; simp at q3
  | cons c l =>
   obtain ⟨q1, q2, q3, q4⟩ := dec_all n.toNat n.toNat (Nat.le_refl _) (by omega)
   rw [hd] at q2
   unfold figs at q2
   rw [List.all_cons, Bool.and_eq_true, isFig_iff] at q2
   rw [parseIntB_plain 64 c l (by omega) (by omega), ← hd, m2]
   have hp : (2 : Nat) ^ (64 - 1) = 9223372036854775808 := by decide
   simp only [signlessC]
   rw [if_neg (by omega)]
   congr 1
   omega
theorem int_decB (n : Int) (h0 : -9223372036854775808 ≤ n) (h1 : n ≤ 9223372036854775807) : intB (decB n) = (n, true) := by
 obtain ⟨a, b⟩ := may_itoa n h0 h1
 unfold intB
 rw [L_decB, if_pos a, b]
end Go.Proofs.YthcijldahbalcaaDoor
end
section
namespace Go.Proofs.YthcijldahbalcaaDoor.P
open Go.RowKit Go.Proofs.YthcijldahbalcaaDoorW.PrintWords Go.Proofs.YthcijldahbalcaaDoorW.PrintLast Go.Proofs.YthcijldahbalcaaDoorW.PrintMore
attribute [local go_sem] max2_int min2_int max_two min_two max_three min_three max_four min_four   
set_option linter.unusedVariables false
set_option linter.unusedSimpArgs false
end Go.Proofs.YthcijldahbalcaaDoor.P
end
section
namespace Go.Proofs.YthcijldahbalcaaDoor.P
open Go.RowKit Go.Proofs.YthcijldahbalcaaDoorW.PrintWords Go.Proofs.YthcijldahbalcaaDoorW.PrintLast Go.Proofs.YthcijldahbalcaaDoorW.PrintMore
attribute [local go_sem] max2_int min2_int max_two min_two max_three min_three max_four min_four   
set_option linter.unusedVariables false
set_option linter.unusedSimpArgs false
end Go.Proofs.YthcijldahbalcaaDoor.P
end
section
namespace Go.Proofs.YthcijldahbalcaaDoor.P
open Go.RowKit Go.Proofs.YthcijldahbalcaaDoorW.PrintWords Go.Proofs.YthcijldahbalcaaDoorW.PrintLast Go.Proofs.YthcijldahbalcaaDoorW.PrintMore
attribute [local go_sem] max2_int min2_int max_two min_two max_three min_three max_four min_four   
set_option linter.unusedVariables false
set_option linter.unusedSimpArgs false
end Go.Proofs.YthcijldahbalcaaDoor.P
end
section
namespace Go.Proofs.YthcijldahbalcaaDoor
open Go.RowKit Go.Lib Go.Proofs.YthcijldahbalcaaDoor.P Go.Proofs.YthcijldahbalcaaDoorW.PrintWords Go.Proofs.YthcijldahbalcaaDoorW.PrintMore
set_option linter.unusedVariables false
theorem rd_at (xs : List Int) (i : Nat) (h : i < xs.length) : rd xs (i : Int) = xs[i] := by
 unfold rd; simp [h]
theorem rdB_at (xs : List ByteArray) (i : Nat) (h : i < xs.length) : rdOf ByteArray.empty xs (i : Int) = xs[i] := by
 unfold rdOf; simp [h]
theorem nx {i n : Nat} (h : i < n) (hn : n ≤ 1000000000) : wrap64 ((i : Int) + 1) = ((i + 1 : Nat) : Int) := by rw [wrap_id (by omega) (by omega)]; omega
def gmax : List Int → Int
 | [] => 8
 | a :: t => t.foldl mx a
theorem mx_l (a b : Int) : a ≤ mx a b := by unfold mx; split <;> omega
theorem mx_r (a b : Int) : b ≤ mx a b := by unfold mx; split <;> omega
theorem fold_ge : ∀ (t : List Int) (a : Int), a ≤ t.foldl mx a ∧ ∀ b ∈ t, b ≤ t.foldl mx a
 | [], a => ⟨Int.le_refl _, fun b h => by simp at h⟩
 | c :: t, a => by
  obtain ⟨h1, h2⟩ := fold_ge t (mx a c)
  rw [List.foldl_cons]
  refine ⟨Int.le_trans (mx_l a c) h1, fun b hb => ?_⟩
  rcases List.mem_cons.1 hb with rfl | hb
  ·exact Int.le_trans (mx_r a b) h1
  ·exact h2 b hb
theorem fold_mem : ∀ (t : List Int) (a : Int), t.foldl mx a = a ∨ t.foldl mx a ∈ t
 | [], a => .inl rfl
 | c :: t, a => by
  rw [List.foldl_cons]
  rcases fold_mem t (mx a c) with h | h
  ·rw [h]
   unfold mx
   split
   ·exact .inr (by simp)
   ·exact .inl rfl
  ·exact .inr (by simp [h])
theorem gmax_ge (xs : List Int) (a : Int) (h : a ∈ xs) : a ≤ gmax xs := by
 cases xs with
 | nil => simp at h
 | cons c t =>
  rcases List.mem_cons.1 h with rfl | h
  ·exact (fold_ge t _).1
  ·exact (fold_ge t c).2 a h
theorem gmax_mem (xs : List Int) : gmax xs = 8 ∨ gmax xs ∈ xs := by
 cases xs with
 | nil => exact .inl rfl
 | cons c t =>
  right
  rcases fold_mem t c with h | h
  ·simp only [gmax, h]; simp
  ·simp only [gmax]; simp [h]
theorem max_l0 (xs : List Int) (hx : xs.length ≤ 1000000) : ∀ (m i k : Nat) (a : Int), xs.length - i < m → m ≤ k → i ≤ xs.length → slices_Max_int_int.l0 k xs a (i : Int) = some ((xs.drop i).foldl mx a) := by
 intro m
 induction m with
 | zero => intro i k a h; omega
 | succ m ih =>
  intro i k a h hk hi
  obtain ⟨k, rfl⟩ : ∃ j, k = j + 1 := ⟨k - 1, by omega⟩
  simp only [slices_Max_int_int.l0]
  by_cases hlt : i < xs.length
  ·rw [if_pos (by omega), if_pos (by omega), rd_at xs i hlt, nx hlt (by omega), ih (i + 1) k _ (by omega) (by omega) (by omega), List.drop_eq_getElem_cons hlt, List.foldl_cons]
  ·rw [if_neg (by omega), List.drop_eq_nil_of_le (by omega)]
   rfl
theorem max_eq (xs : List Int) (hx : xs.length ≤ 1000000) (k : Nat) (hk : xs.length + 1 ≤ k) : width_Max.f k xs = some (gmax xs) := by
 unfold width_Max.f
 cases xs with
 | nil => rfl
 | cons c t =>
  rw [if_neg (by simp only [List.length_cons]; omega)]
  unfold slices_Max_int_int.f
  rw [if_neg (by simp only [List.length_cons]; omega), if_pos (by simp only [List.length_cons]; omega)]
  have h0 : rd (c :: t) 0 = c := rfl
  have := max_l0 (c :: t) hx ((c :: t).length + 1) 1 k c (by omega) hk (by simp)
  rw [h0]
  rw [show (1 : Int) = ((1 : Nat) : Int) from rfl, this, Option.bind_some]
  rfl
theorem width_l0 (ys : List ByteArray) (hy : ys.length ≤ 1000000) (hs : ∀ e ∈ ys, e.size ≤ 281474976710656) : ∀ (m i k : Nat) (acc : List Int), ys.length - i < m → m + ys.length + 1 ≤ k → i ≤ ys.length → acc.length ≤ i →
  val_Width.l0 k acc ys (ys.length : Int) (i : Int) = some (gmax (acc ++ (ys.drop i).map widB)) := by
 intro m
 induction m with
 | zero => intro i k a h; omega
 | succ m ih =>
  intro i k acc h hk hi ha
  obtain ⟨k, rfl⟩ : ∃ j, k = j + 1 := ⟨k - 1, by omega⟩
  simp only [val_Width.l0]
  by_cases hlt : i < ys.length
  ·rw [if_pos (by omega), if_pos (by omega), if_pos (by omega), rdB_at ys i hlt, (Of_eq ys[i] (hs _ (List.getElem_mem hlt))).1, Option.bind_some, if_pos (by omega), nx hlt (by omega),
    ih (i + 1) k _ (by omega) (by omega) (by omega) (by simp only [List.length_append, List.length_cons, List.length_nil]; omega), List.drop_eq_getElem_cons hlt, List.map_cons, List.append_assoc]
   rfl
  ·rw [if_neg (by omega), List.drop_eq_nil_of_le (by omega), max_eq acc (by omega) k (by omega), Option.bind_some]
   simp
theorem width_eq (xs : List Int) (ys : List ByteArray) (hy : ys.length ≤ 1000000) (hs : ∀ e ∈ ys, e.size ≤ 281474976710656) (k : Nat) (hk : 2 * ys.length + 2 ≤ k) : val_Width.f k xs ys = some (gmax (ys.map widB)) := by
 unfold val_Width.f
 have := width_l0 ys hy hs (ys.length + 1) 0 k [] (by omega) (by omega) (by omega) (by simp)
 rw [show (0 : Int) = ((0 : Nat) : Int) from rfl, this]
 simp
theorem up_of {f : Nat → Option Bool} (hm : ∀ k, LeO (f k) (f (k + 1))) {n : Nat} {r : Bool} (h : f n = some r) : ∀ k, n ≤ k → f k = some r := by
 intro k hk
 induction k with
 | zero =>
  obtain rfl : n = 0 := by omega
  exact h
 | succ k ih =>
  rcases Nat.lt_or_ge n (k + 1) with h1 | h1
  ·exact hm k r (ih (by omega))
  ·obtain rfl : n = k + 1 := by omega
   exact h
end Go.Proofs.YthcijldahbalcaaDoor
end
section
namespace Go.Proofs.YthcijldahbalcaaDoor.P
open Go.RowKit Go.Proofs.YthcijldahbalcaaDoorW.PrintWords Go.Proofs.YthcijldahbalcaaDoorW.PrintLast Go.Proofs.YthcijldahbalcaaDoorW.PrintMore
attribute [local go_sem] max2_int min2_int max_two min_two max_three min_three max_four min_four   
set_option linter.unusedVariables false
set_option linter.unusedSimpArgs false
end Go.Proofs.YthcijldahbalcaaDoor.P
end
section
namespace Go.Proofs.YthcijldahbalcaaDoor
open Go.RowKit Go.Lib Go.Proofs.YthcijldahbalcaaDoor.P Go.Proofs.YthcijldahbalcaaDoorW.PrintWords Go.Proofs.YthcijldahbalcaaDoorW.PrintMore
set_option linter.unusedVariables false
def prod : List Int → Int
 | [] => 1
 | d :: t => d * prod t
def sizeL (xs : List Int) : Int × Int :=
 if xs.length > 3 then (0, 3) else if xs.any (fun d => decide (d < 0)) = true then (0, 5) else if xs.any (fun d => decide (d > 1099511627776)) = true then (0, 8)
 else if prod xs ≤ 4096 then (prod xs, 0) else (0, 8)
theorem size1_l0 (xs : List Int) (hx : xs.length ≤ 1000000) : ∀ (m i k : Nat), xs.length - i < m → m ≤ k → i ≤ xs.length →
  ∃ t, IndexFunc_Size1.l0 k xs (xs.length : Int) (i : Int) = some t ∧ decide (t ≥ 0) = (xs.drop i).any (fun d => decide (d < 0)) := by
 intro m
 induction m with
 | zero => intro i k h; omega
 | succ m ih =>
  intro i k h hk hi
  obtain ⟨k, rfl⟩ : ∃ j, k = j + 1 := ⟨k - 1, by omega⟩
  simp only [IndexFunc_Size1.l0]
  by_cases hlt : i < xs.length
  ·rw [if_pos (by omega), if_pos (by omega), if_pos (by omega), rd_at xs i hlt, List.drop_eq_getElem_cons hlt, List.any_cons]
   unfold shape_Size_1.f
   rw [Option.bind_some]
   cases hb : decide (xs[i] < 0) with
   | true => rw [if_pos rfl]; exact ⟨_, rfl, by simp⟩
   | false =>
    rw [if_neg (by decide), nx hlt (by omega), Bool.false_or]
    exact ih (i + 1) k (by omega) (by omega) (by omega)
  ·rw [if_neg (by omega), List.drop_eq_nil_of_le (by omega)]
   exact ⟨_, rfl, rfl⟩
theorem size1_eq (xs : List Int) (hx : xs.length ≤ 1000000) (k : Nat) (hk : xs.length + 1 ≤ k) : ContainsFunc_Size1.f k xs = some (xs.any (fun d => decide (d < 0))) := by
 unfold ContainsFunc_Size1.f IndexFunc_Size1.f
 obtain ⟨t, h, ht⟩ := size1_l0 xs hx (xs.length + 1) 0 k (by omega) hk (by omega)
 rw [List.drop_zero] at ht
 rw [← ht]
 have h2 : IndexFunc_Size1.l0 k xs (xs.length : Int) 0 = some t := h
 rw [h2, Option.bind_some]
theorem size2_l0 (xs : List Int) (hx : xs.length ≤ 1000000) : ∀ (m i k : Nat), xs.length - i < m → m ≤ k → i ≤ xs.length →
  ∃ t, IndexFunc_Size2.l0 k xs (xs.length : Int) (i : Int) = some t ∧ decide (t ≥ 0) = (xs.drop i).any (fun d => decide (d > 1099511627776)) := by
 intro m
 induction m with
 | zero => intro i k h; omega
 | succ m ih =>
  intro i k h hk hi
  obtain ⟨k, rfl⟩ : ∃ j, k = j + 1 := ⟨k - 1, by omega⟩
  simp only [IndexFunc_Size2.l0]
  by_cases hlt : i < xs.length
  ·rw [if_pos (by omega), if_pos (by omega), if_pos (by omega), rd_at xs i hlt, List.drop_eq_getElem_cons hlt, List.any_cons]
   unfold shape_Size_2.f
   rw [Option.bind_some]
   cases hb : decide (xs[i] > 1099511627776) with
   | true => rw [if_pos rfl]; exact ⟨_, rfl, by simp⟩
   | false =>
    rw [if_neg (by decide), nx hlt (by omega), Bool.false_or]
    exact ih (i + 1) k (by omega) (by omega) (by omega)
  ·rw [if_neg (by omega), List.drop_eq_nil_of_le (by omega)]
   exact ⟨_, rfl, rfl⟩
theorem size2_eq (xs : List Int) (hx : xs.length ≤ 1000000) (k : Nat) (hk : xs.length + 1 ≤ k) : ContainsFunc_Size2.f k xs = some (xs.any (fun d => decide (d > 1099511627776))) := by
 unfold ContainsFunc_Size2.f IndexFunc_Size2.f
 obtain ⟨t, h, ht⟩ := size2_l0 xs hx (xs.length + 1) 0 k (by omega) hk (by omega)
 rw [List.drop_zero] at ht
 rw [← ht]
 have h2 : IndexFunc_Size2.l0 k xs (xs.length : Int) 0 = some t := h
 rw [h2, Option.bind_some]
theorem has_l0 (xs : List Int) (z : Int) (hx : xs.length ≤ 1000000) : ∀ (m i k : Nat), xs.length - i < m → m ≤ k → i ≤ xs.length →
  ∃ t, slices_Index_int_int.l0 k xs z (xs.length : Int) (i : Int) = some t ∧ (t ≥ 0 ↔ z ∈ xs.drop i) := by
 intro m
 induction m with
 | zero => intro i k h; omega
 | succ m ih =>
  intro i k h hk hi
  obtain ⟨k, rfl⟩ : ∃ j, k = j + 1 := ⟨k - 1, by omega⟩
  simp only [slices_Index_int_int.l0]
  by_cases hlt : i < xs.length
  ·rw [if_pos (by omega), if_pos (by omega), if_pos (by omega), rd_at xs i hlt, List.drop_eq_getElem_cons hlt]
   by_cases hz : z = xs[i]
   ·rw [if_pos hz]; exact ⟨_, rfl, ⟨fun _ => by rw [hz]; exact List.mem_cons_self, fun _ => by omega⟩⟩
   ·rw [if_neg hz, nx hlt (by omega)]
    obtain ⟨t, h1, h2⟩ := ih (i + 1) k (by omega) (by omega) (by omega)
    refine ⟨t, h1, h2.trans ?_⟩
    rw [List.mem_cons]
    constructor
    ·exact .inr
    ·rintro (h | h)
     ·exact absurd h hz
     ·exact h
  ·rw [if_neg (by omega), List.drop_eq_nil_of_le (by omega)]
   exact ⟨_, rfl, by simp⟩
theorem has_eq (xs : List Int) (z : Int) (hx : xs.length ≤ 1000000) (k : Nat) (hk : xs.length + 1 ≤ k) : ∃ b, slices_Contains_int_int.f k xs z = some b ∧ (b = true ↔ z ∈ xs) := by
 unfold slices_Contains_int_int.f slices_Index_int_int.f
 obtain ⟨t, h, ht⟩ := has_l0 xs z hx (xs.length + 1) 0 k (by omega) hk (by omega)
 rw [List.drop_zero] at ht
 refine ⟨decide (t ≥ 0), ?_, by simpa using ht⟩
 have h2 : slices_Index_int_int.l0 k xs z (xs.length : Int) 0 = some t := h
 rw [h2, Option.bind_some]
theorem prod_pos : ∀ (xs : List Int), (∀ d ∈ xs, 1 ≤ d) → 1 ≤ prod xs
 | [], _ => by simp [prod]
 | d :: t, h => by
  have h1 := prod_pos t (fun e he => h e (by simp [he]))
  have h2 := h d (by simp)
  unfold prod
  have := Int.mul_le_mul h2 h1 (by omega) (by omega)
  omega
theorem prod_zero : ∀ (xs : List Int), (0 : Int) ∈ xs → prod xs = 0
 | [], h => by simp at h
 | d :: t, h => by
  unfold prod
  rcases List.mem_cons.1 h with h | h
  ·rw [← h, Int.zero_mul]
  ·rw [prod_zero t h, Int.mul_zero]
theorem gt_div {a d : Int} (ha : 1 ≤ a) (ha2 : a ≤ 4096) (hd : 1 ≤ d) : d > wrap64 (Int.tdiv 4096 a) ↔ a * d > 4096 := by
 have h1 : Int.tdiv 4096 a = 4096 / a := Int.tdiv_eq_ediv_of_nonneg (by omega)
 have h2 : 4096 / a ≤ 4096 := Int.ediv_le_self a (by decide)
 have h3 : 0 ≤ 4096 / a := Int.ediv_nonneg (by omega) (by omega)
 rw [h1, wrap_id (by omega) (by omega)]
 constructor
 ·intro h
  have := Int.lt_mul_of_ediv_lt (by omega : 0 < a) h
  rw [Int.mul_comm] at this
  exact this
 ·intro h
  apply Decidable.byContradiction
  intro hn
  have hle : d ≤ 4096 / a := by omega
  have h4 : a * d ≤ a * (4096 / a) := Int.mul_le_mul_of_nonneg_left hle (by omega)
  have h5 : a * (4096 / a) ≤ 4096 := Int.mul_ediv_self_le (by omega)
  omega
theorem sizeloop (xs : List Int) (hx : xs.length ≤ 1000000) (hd : ∀ d ∈ xs, 1 ≤ d) (hb : ∀ d ∈ xs, d ≤ 1099511627776) : ∀ (m i k : Nat) (a : Int), xs.length - i < m → m ≤ k → i ≤ xs.length → 1 ≤ a → a ≤ 4096 →
  shape_Size.l0 k a xs (xs.length : Int) (i : Int) = some (if a * prod (xs.drop i) ≤ 4096 then (a * prod (xs.drop i), 0) else (0, 8)) := by
 intro m
 induction m with
 | zero => intro i k a h; omega
 | succ m ih =>
  intro i k a h hk hi ha1 ha2
  obtain ⟨k, rfl⟩ : ∃ j, k = j + 1 := ⟨k - 1, by omega⟩
  simp only [shape_Size.l0]
  by_cases hlt : i < xs.length
  ·have hm := List.getElem_mem hlt
   have h1 := hd _ hm
   have h2 := hb _ hm
   have hp := prod_pos (xs.drop (i + 1)) (fun e he => hd e (List.mem_of_mem_drop he))
   rw [if_pos (by omega), if_pos (by omega), if_pos (by omega), if_neg (by omega), rd_at xs i hlt, List.drop_eq_getElem_cons hlt]
   have hgt := gt_div ha1 ha2 h1
   have hpr : a * prod (xs[i] :: xs.drop (i + 1)) = a * xs[i] * prod (xs.drop (i + 1)) := by
    show a * (xs[i] * prod (xs.drop (i + 1))) = _
    rw [Int.mul_assoc]
   rw [hpr]
   by_cases hg : xs[i] > wrap64 (Int.tdiv 4096 a)
   ·rw [if_pos hg]
    have h3 := hgt.1 hg
    have h4 : a * xs[i] * 1 ≤ a * xs[i] * prod (xs.drop (i + 1)) := Int.mul_le_mul_of_nonneg_left hp (by omega)
    rw [if_neg (by omega)]
   ·rw [if_neg hg]
    have h3 : a * xs[i] ≤ 4096 := by
     apply Decidable.byContradiction
     intro hn
     exact hg (hgt.2 (by omega))
    have h4 : 1 * 1 ≤ a * xs[i] := Int.mul_le_mul ha1 h1 (by decide) (by omega)
    rw [nx hlt (by omega), wrap_id (by omega) (by omega)]
    exact ih (i + 1) k _ (by omega) (by omega) (by omega) (by omega) h3
  ·rw [if_neg (by omega), List.drop_eq_nil_of_le (by omega)]
   have : a * prod [] = a := by simp [prod]
   rw [this, if_pos ha2]
theorem size_eq (xs : List Int) (k : Nat) (hk : 10 ≤ k) : shape_Size.f k xs = some (sizeL xs) := by
 unfold shape_Size.f sizeL
 by_cases h : xs.length > 3
 ·rw [if_pos (by omega), if_pos h]
 ·rw [if_neg (by omega), if_neg h, size1_eq xs (by omega) k (by omega), Option.bind_some]
  cases h1 : xs.any (fun d => decide (d < 0)) with
  | true => rw [if_pos rfl, if_pos rfl]
  | false =>
   rw [if_neg (by decide), if_neg (by decide), size2_eq xs (by omega) k (by omega), Option.bind_some]
   cases h2 : xs.any (fun d => decide (d > 1099511627776)) with
   | true => rw [if_pos rfl, if_pos rfl]
   | false =>
    rw [if_neg (by decide), if_neg (by decide)]
    obtain ⟨b, hb, hz⟩ := has_eq xs 0 (by omega) k (by omega)
    rw [hb, Option.bind_some]
    have p1 : ∀ d ∈ xs, 0 ≤ d := fun d hd => by
     have := List.any_eq_false.1 h1 d hd
     simpa using this
    have p2 : ∀ d ∈ xs, d ≤ 1099511627776 := fun d hd => by
     have := List.any_eq_false.1 h2 d hd
     simpa using this
    by_cases hb2 : b = true
    ·rw [if_pos hb2, prod_zero xs (hz.1 hb2)]
     rfl
    ·rw [if_neg hb2]
     have p3 : ∀ d ∈ xs, 1 ≤ d := fun d hd => by
      have := p1 d hd
      rcases Int.lt_or_eq_of_le this with h | h
      ·omega
      ·exact absurd (hz.2 (by rw [h]; exact hd)) hb2
     have := sizeloop xs (by omega) p3 p2 (xs.length + 1) 0 k 1 (by omega) (by omega) (by omega) (by decide) (by decide)
     rw [show (0 : Int) = ((0 : Nat) : Int) from rfl, this, List.drop_zero, Int.one_mul]
     rfl
theorem may_l0 (ys : List ByteArray) (hy : ys.length ≤ 1000000) : ∀ (m i k : Nat), ys.length - i < m → m ≤ k → i ≤ ys.length →
  ∃ t, slices_IndexFunc_string_string.l0 k ys (ys.length : Int) (i : Int) = some t ∧ decide (t ≥ 0) = (ys.drop i).any (fun e => !mayB (L e)) := by
 intro m
 induction m with
 | zero => intro i k h; omega
 | succ m ih =>
  intro i k h hk hi
  obtain ⟨k, rfl⟩ : ∃ j, k = j + 1 := ⟨k - 1, by omega⟩
  simp only [slices_IndexFunc_string_string.l0]
  by_cases hlt : i < ys.length
  ·rw [if_pos (by omega), if_pos (by omega), if_pos (by omega), rdB_at ys i hlt, List.drop_eq_getElem_cons hlt, List.any_cons]
   unfold val_May_1.f
   rw [May_eq, Option.bind_some, Option.bind_some]
   cases hb : mayB (L ys[i]) with
   | false => rw [if_pos (by decide)]; exact ⟨_, rfl, by simp⟩
   | true =>
    rw [if_neg (by decide), nx hlt (by omega), Bool.not_true, Bool.false_or]
    exact ih (i + 1) k (by omega) (by omega) (by omega)
  ·rw [if_neg (by omega), List.drop_eq_nil_of_le (by omega)]
   exact ⟨_, rfl, rfl⟩
def mayV (xs : List Int) (ys : List ByteArray) : Bool := decide ((sizeL xs).2 = 0) && (decide ((ys.length : Int) = (sizeL xs).1) && !(ys.any (fun e => !mayB (L e))))
theorem mayV_eq (xs : List Int) (ys : List ByteArray) (hy : ys.length ≤ 1000000) (k : Nat) (hk : ys.length + 10 ≤ k) : val_May.f k xs ys = some (mayV xs ys) := by
 unfold val_May.f mayV
 rw [size_eq xs k (by omega), Option.bind_some]
 by_cases h : (sizeL xs).2 = 0
 ·have e : decide ((sizeL xs).2 = 0) = true := by simpa using h
  rw [if_pos h, e, Bool.true_and]
  by_cases h2 : (ys.length : Int) = (sizeL xs).1
  ·have e : decide ((ys.length : Int) = (sizeL xs).1) = true := by simpa using h2
   rw [if_pos h2, e, Bool.true_and]
   unfold slices_ContainsFunc_string_string.f slices_IndexFunc_string_string.f
   obtain ⟨t, h3, h4⟩ := may_l0 ys hy (ys.length + 1) 0 k (by omega) (by omega) (by omega)
   rw [List.drop_zero] at h4
   rw [show (0 : Int) = ((0 : Nat) : Int) from rfl, h3, Option.bind_some, Option.bind_some, ← h4]
   rfl
  ·have e : decide ((ys.length : Int) = (sizeL xs).1) = false := by simpa using h2
   rw [if_neg h2, e, Bool.false_and]
 ·have e : decide ((sizeL xs).2 = 0) = false := by simpa using h
  rw [if_neg h, e, Bool.false_and]
structure Good (xs : List Int) (ys : List ByteArray) : Prop where
 rank : xs.length ≤ 3
 pos : ∀ d ∈ xs, 0 ≤ d
 big : ∀ d ∈ xs, d ≤ 1099511627776
 size : (ys.length : Int) = prod xs
 few : prod xs ≤ 4096
 may : ∀ e ∈ ys, mayB (L e) = true
theorem good_of (xs : List Int) (ys : List ByteArray) (h : mayV xs ys = true) : Good xs ys := by
 unfold mayV at h
 simp only [Bool.and_eq_true, decide_eq_true_eq] at h
 obtain ⟨h1, h2, h3⟩ := h
 have h4 : ∀ e ∈ ys, mayB (L e) = true := fun e he => by
  have : ys.any (fun e => !mayB (L e)) = false := by simpa using h3
  have := List.any_eq_false.1 this e he
  simpa using this
 unfold sizeL at h1 h2
 split at h1
 ·simp at h1
 ·rename_i r1
  rw [if_neg r1] at h2
  split at h1
  ·simp at h1
  ·rename_i r2
   rw [if_neg r2] at h2
   split at h1
   ·simp at h1
   ·rename_i r3
    rw [if_neg r3] at h2
    split at h1
    ·rename_i r4
     rw [if_pos r4] at h2
     refine ⟨by omega, fun d hd => ?_, fun d hd => ?_, h2, r4, h4⟩
     ·have := List.any_eq_false.1 (by simpa using r2 : xs.any (fun d => decide (d < 0)) = false) d hd
      simpa using this
     ·have := List.any_eq_false.1 (by simpa using r3 : xs.any (fun d => decide (d > 1099511627776)) = false) d hd
      simpa using this
    ·simp at h1
theorem sizeL_of (xs : List Int) (h1 : xs.length ≤ 3) (h2 : ∀ d ∈ xs, 0 ≤ d) (h3 : ∀ d ∈ xs, d ≤ 1099511627776) (h4 : prod xs ≤ 4096) : sizeL xs = (prod xs, 0) := by
 unfold sizeL
 have e1 : xs.any (fun d => decide (d < 0)) = false := List.any_eq_false.2 (fun d hd => by have := h2 d hd; simpa using this)
 have e2 : xs.any (fun d => decide (d > 1099511627776)) = false := List.any_eq_false.2 (fun d hd => by have := h3 d hd; simpa using this)
 rw [if_neg (by omega), e1, if_neg (by decide), e2, if_neg (by decide), if_pos h4]
theorem mayV_of {xs : List Int} {ys : List ByteArray} (h : Good xs ys) : mayV xs ys = true := by
 unfold mayV
 rw [sizeL_of xs h.rank h.pos h.big h.few]
 have e : ys.any (fun e => !mayB (L e)) = false := List.any_eq_false.2 (fun d hd => by have := h.may d hd; simp [this])
 rw [e]
 simp [h.size]
theorem w_small (q : Nat) (h : q ≤ 1000000) : wrap64 (q : Int) = (q : Int) := wrap_id (by omega) (by omega)
theorem nle {i n : Nat} (h : i < n) : ¬ ((i : Int) ≥ (n : Int)) := by omega
end Go.Proofs.YthcijldahbalcaaDoor
end
section
namespace Go.Proofs.YthcijldahbalcaaDoor
open Go.RowKit Go.Lib Go.Proofs.YthcijldahbalcaaDoor.P Go.Proofs.YthcijldahbalcaaDoorW.PrintWords Go.Proofs.YthcijldahbalcaaDoorW.PrintLast Go.Proofs.YthcijldahbalcaaDoorW.PrintMore
set_option linter.unusedVariables false
def Wd (n : Int) : Prop := -9223372036854775808 ≤ n ∧ n ≤ 9223372036854775807
theorem or_byte (x b : Int) (h0 : 0 ≤ b) (h1 : b < 256) : bits .or .i64 (wrap64 (x * 256)) b = wrap64 (x * 256 + b) := by
 obtain ⟨B, rfl⟩ := Int.eq_ofNat_of_zero_le h0
 have hB : B < 256 := by omega
 have e1 : (BitVec.ofInt 64 (B : Int)).toNat = B := by
  rw [BitVec.ofInt_natCast, BitVec.toNat_ofNat]
  exact Nat.mod_eq_of_lt (by omega)
 obtain ⟨A, hA⟩ : ∃ A : Nat, (BitVec.ofInt 64 (wrap64 (x * 256))).toNat = 2 ^ 8 * A ∧ ∃ q : Int, ((2 ^ 8 * A : Nat) : Int) = x * 256 + q * 18446744073709551616 := by
  have e2 : (BitVec.ofInt 64 (wrap64 (x * 256))).toNat = (wrap64 (x * 256) % 18446744073709551616).toNat := by
   rw [BitVec.toNat_ofInt]
   rfl
  have hw : ∃ q : Int, wrap64 (x * 256) % 18446744073709551616 = x * 256 + q * 18446744073709551616 := by
   refine ⟨-((x * 256) / 18446744073709551616), ?_⟩
   unfold wrap64
   omega
  obtain ⟨q, hq⟩ := hw
  have hp : 0 ≤ wrap64 (x * 256) % 18446744073709551616 := Int.emod_nonneg _ (by decide)
  refine ⟨(wrap64 (x * 256) % 18446744073709551616).toNat / 256, ?_, q, ?_⟩
  ·rw [e2]
   omega
  ·omega
 obtain ⟨hA, q, hq⟩ := hA
 show IntKind.i64.wrap ((BitVec.ofInt 64 (wrap64 (x * 256)) ||| BitVec.ofInt 64 (B : Int)).toNat : Int) = _
 rw [BitVec.toNat_or, e1, hA, ← Nat.two_pow_add_eq_or_of_lt (by omega : B < 2 ^ 8) A, i64_w]
 have e3 : ((2 ^ 8 * A + B : Nat) : Int) = x * 256 + B + q * 18446744073709551616 := by
  rw [Int.natCast_add, hq]; omega
 rw [e3]
 unfold wrap64
 omega
def putL (x : Int) : Nat → List Int
 | 0 => []
 | n + 1 => putL (x / 256) n ++ [x % 256]
theorem putL_len (x : Int) (n : Nat) : (putL x n).length = n := by
 induction n generalizing x with
 | zero => rfl
 | succ n ih => simp [putL, ih]
theorem putL_byte (x : Int) (n : Nat) : ∀ b ∈ putL x n, 0 ≤ b ∧ b < 256 := by
 induction n generalizing x with
 | zero => intro b h; simp [putL] at h
 | succ n ih =>
  intro b h
  simp only [putL, List.mem_append, List.mem_singleton] at h
  rcases h with h | h
  ·exact ih _ b h
  ·subst h; omega
theorem putL_front (x : Int) (i : Nat) : putL x (i + 1) = (x / 256 ^ i % 256) :: putL x i := by
 induction i generalizing x with
 | zero => simp [putL]
 | succ i ih =>
  have h1 : putL x (i + 1 + 1) = putL (x / 256) (i + 1) ++ [x % 256] := rfl
  have h2 : putL x (i + 1) = putL (x / 256) i ++ [x % 256] := rfl
  rw [h1, ih, h2, List.cons_append]
  congr 2
  rw [Int.pow_succ', Int.ediv_ediv_of_nonneg (by decide)]
def getV : List Int → Int
 | [] => 0
 | b :: t => t.foldl (fun a c => wrap64 (a * 256 + c)) (IntKind.i8.wrap b)
theorem getV_snoc (l : List Int) (b : Int) (h : l ≠ []) : getV (l ++ [b]) = wrap64 (getV l * 256 + b) := by
 cases l with
 | nil => exact absurd rfl h
 | cons c t => simp [getV, List.foldl_append]
def fitN (n : Nat) (v : Int) : Prop := -(128 * 256 ^ (n - 1)) ≤ v ∧ v < 128 * 256 ^ (n - 1)
theorem i8_w (v : Int) (h0 : -128 ≤ v) (h1 : v < 128) : IntKind.i8.wrap (v % 256) = v := by
 simp only [IntKind.wrap, IntKind.bits, IntKind.signed]
 simp
 split <;> omega
theorem get_put : ∀ (n : Nat) (v : Int), fitN (n + 1) v → Wd v → getV (putL v (n + 1)) = v
 | 0, v, h, _ => by
  unfold fitN at h
  have : putL v 1 = [v % 256] := by simp [putL]
  rw [this]
  have h2 : -128 ≤ v ∧ v < 128 := by simpa using h
  exact i8_w v h2.1 h2.2
 | n + 1, v, h, hw => by
  have hne : putL (v / 256) (n + 1) ≠ [] := by
   intro he
   have := putL_len (v / 256) (n + 1)
   rw [he] at this
   simp at this
  have hf : fitN (n + 1) (v / 256) := by
   unfold fitN at h ⊢
   have e : n + 1 + 1 - 1 = n + 1 := by omega
   have e2 : n + 1 - 1 = n := by omega
   rw [e, Int.pow_succ] at h
   rw [e2]
   generalize (256 : Int) ^ n = p at h ⊢
   omega
  unfold Wd at hw
  have ih := get_put n (v / 256) hf (by unfold Wd; omega)
  show getV (putL (v / 256) (n + 1) ++ [v % 256]) = v
  rw [getV_snoc _ _ hne, ih]
  have : v / 256 * 256 + v % 256 = v := by omega
  rw [this]
  exact wrap_id hw.1 hw.2
def bytesI (s : ByteArray) : List Int := (L s).map fun c => (c.toNat : Int)
theorem bytesI_len (s : ByteArray) : (bytesI s).length = s.size := by simp [bytesI]
theorem bytesI_byte (s : ByteArray) : ∀ b ∈ bytesI s, 0 ≤ b ∧ b < 256 := by
 intro b h
 obtain ⟨c, _, rfl⟩ := List.mem_map.1 h
 have := c.toNat_lt
 omega
theorem bt_I (s : ByteArray) (i : Nat) (h : i < (bytesI s).length) : bt s (i : Int) = (bytesI s)[i] := by
 rw [L_bt s i (by simpa [bytesI] using h)]
 simp [bytesI]
theorem bytesI_str (l : List Int) (h : ∀ b ∈ l, 0 ≤ b ∧ b < 256) : bytesI (strOfNums l) = l := by
 unfold bytesI
 have : L (strOfNums l) = l.map fun n => UInt8.ofNat n.toNat := rfl
 rw [this, List.map_map]
 conv => rhs; rw [← List.map_id l]
 apply List.map_congr_left
 intro b hb
 have := h b hb
 simp [UInt8.toNat_ofNat']
 omega
theorem bytesI_ext (s : ByteArray) (a b : Nat) : bytesI (s.extract a b) = ((bytesI s).drop a).take (b - a) := by
 unfold bytesI
 have : L (s.extract a b) = ((L s).drop a).take (b - a) := Lib.extract_data s a b
 rw [this, List.map_take, List.map_drop]
theorem get_l0 (s : ByteArray) (hs : s.size ≤ 1000000) : ∀ (m i k : Nat) (x : Int), s.size - 1 - i < m → m ≤ k → i + 1 ≤ s.size →
  typed_get.l0 k s x ((s.size - 1 : Nat) : Int) (i : Int) = some (((bytesI s).drop (i + 1)).foldl (fun a c => wrap64 (a * 256 + c)) x) := by
 intro m
 induction m with
 | zero => intro i k x h; omega
 | succ m ih =>
  intro i k x h hk hi
  obtain ⟨k, rfl⟩ : ∃ j, k = j + 1 := ⟨k - 1, by omega⟩
  simp only [typed_get.l0]
  by_cases hlt : i < s.size - 1
  ·have hl : i + 1 < (bytesI s).length := by rw [bytesI_len]; omega
   have hb := bytesI_byte s _ (List.getElem_mem hl)
   have hn : wrap64 ((i : Int) + 1) = ((i + 1 : Nat) : Int) := nx hlt (by omega)
   rw [if_pos (by omega), hn, if_pos (by omega), if_pos (by omega), bt_I s (i + 1) hl, wrap_id (a := (bytesI s)[i + 1]) (by omega) (by omega), or_byte _ _ hb.1 hb.2, ih (i + 1) k _ (by omega) (by omega) (by omega), List.drop_eq_getElem_cons hl, List.foldl_cons]
  ·rw [if_neg (by omega), List.drop_eq_nil_of_le (by rw [bytesI_len]; omega)]
   rfl
theorem get_eq (s : ByteArray) (hs : s.size ≤ 1000000) (h1 : 1 ≤ s.size) (k : Nat) (hk : s.size + 1 ≤ k) : typed_get.f k s = some (getV (bytesI s)) := by
 unfold typed_get.f
 have hl : 0 < (bytesI s).length := by rw [bytesI_len]; omega
 have hb := bytesI_byte s _ (List.getElem_mem hl)
 have e0 : bt s 0 = (bytesI s)[0] := bt_I s 0 hl
 have e1 : wrap64 ((s.size : Int) - 1) = ((s.size - 1 : Nat) : Int) := by rw [wrap_id (by omega) (by omega)]; omega
 have hi8 : -128 ≤ IntKind.i8.wrap (bytesI s)[0] ∧ IntKind.i8.wrap (bytesI s)[0] < 128 := by
  generalize (bytesI s)[0] = b at hb
  simp only [IntKind.wrap, IntKind.bits, IntKind.signed]
  simp
  split <;> omega
 rw [if_pos (by omega), e0, e1, wrap_id (by omega) (by omega)]
 have := get_l0 s hs (s.size + 1) 0 k (IntKind.i8.wrap (bytesI s)[0]) (by omega) hk (by omega)
 rw [show (0 : Int) = ((0 : Nat) : Int) from rfl, this]
 congr 1
 have hd : bytesI s = (bytesI s)[0] :: (bytesI s).drop 1 := by
  rw [← List.drop_eq_getElem_cons hl, List.drop_zero]
 conv => rhs; rw [hd]
 rfl
theorem shr_at (x : Int) (i : Nat) (hi : i ≤ 7) : shr .i64 x (wrap64 (8 * (i : Int))) = x / 256 ^ i := by
 rw [wrap_id (by omega) (by omega)]
 unfold shr
 have e : min (8 * (i : Int)).toNat (IntKind.bits .i64) = 8 * i := by
  show min (8 * (i : Int)).toNat 64 = 8 * i
  omega
 rw [e, Int.pow_mul]
 rfl
theorem put_l0 (x : Int) (n : Nat) (hn : n ≤ 8) : ∀ (m i k : Nat), n - i < m → m ≤ k → i ≤ n →
  typed_put.l0 k x (List.replicate (n - i) 0 ++ putL x i) (n : Int) (i : Int) = some (putL x n) := by
 intro m
 induction m with
 | zero => intro i k h; omega
 | succ m ih =>
  intro i k h hk hi
  obtain ⟨k, rfl⟩ : ∃ j, k = j + 1 := ⟨k - 1, by omega⟩
  have hlen : (List.replicate (n - i) (0 : Int) ++ putL x i).length = n := by
   rw [List.length_append, List.length_replicate, putL_len]; omega
  simp only [typed_put.l0, hlen]
  by_cases hlt : i < n
  ·have e1 : wrap64 (8 * (i : Int)) = 8 * (i : Int) := wrap_id (by omega) (by omega)
   have e2 : wrap64 (wrap64 ((n : Int) - 1) - (i : Int)) = ((n - 1 - i : Nat) : Int) := by
    rw [wrap_id (a := (n : Int) - 1) (by omega) (by omega), wrap_id (by omega) (by omega)]; omega
   rw [if_pos (by omega), shr_at x i (by omega), e2, e1, if_pos (by omega), if_pos (by omega), if_pos (by omega), Int.toNat_natCast, nx hlt (by omega)]
   have hz : (List.replicate (n - i) (0 : Int) ++ putL x i).set (n - 1 - i) (x / 256 ^ i % 256) = List.replicate (n - (i + 1)) 0 ++ putL x (i + 1) := by
    have e3 : n - i = (n - (i + 1)) + 1 := by omega
    have e4 : n - 1 - i = n - (i + 1) := by omega
    rw [e3, e4, List.replicate_succ', List.append_assoc, putL_front]
    rw [List.set_append_right _ _ (by simp)]
    simp
   rw [hz]
   exact ih (i + 1) k (by omega) (by omega) (by omega)
  ·rw [if_neg (by omega)]
   obtain rfl : i = n := by omega
   rw [Nat.sub_self]
   rfl
theorem put_eq (x : Int) (n : Nat) (hn : n ≤ 8) (k : Nat) (hk : 10 ≤ k) : typed_put.f k x (8 * (n : Int)) = some (putL x n) := by
 unfold typed_put.f
 have e : Int.tdiv (8 * (n : Int)) 8 = (n : Int) := by
  rw [Int.tdiv_eq_ediv_of_nonneg (by omega)]; omega
 rw [e, wrap_id (by omega) (by omega), if_pos (by omega), Int.toNat_natCast, if_pos (by omega), Option.bind_some, List.length_replicate]
 have := put_l0 x n hn (n + 1) 0 k (by omega) (by omega) (by omega)
 have e2 : List.replicate (n - 0) (0 : Int) ++ putL x 0 = List.replicate n 0 := by simp [putL]
 rw [e2] at this
 exact this
def layL (n : Nat) (l : List Int) : List Int := l.flatMap fun x => putL x n
theorem layL_len (n : Nat) (l : List Int) : (layL n l).length = l.length * n := by
 induction l with
 | nil => simp [layL]
 | cons x l ih =>
  have : layL n (x :: l) = putL x n ++ layL n l := rfl
  rw [this, List.length_append, putL_len, ih, List.length_cons, Nat.succ_mul]
  omega
theorem layL_byte (n : Nat) (l : List Int) : ∀ b ∈ layL n l, 0 ≤ b ∧ b < 256 := by
 intro b h
 obtain ⟨x, _, hb⟩ := List.mem_flatMap.1 h
 exact putL_byte x n b hb
theorem layL_at (n : Nat) (l : List Int) (i : Nat) (h : i < l.length) : ((layL n l).drop (i * n)).take n = putL l[i] n := by
 induction l generalizing i with
 | nil => simp at h
 | cons x l ih =>
  have e : layL n (x :: l) = putL x n ++ layL n l := rfl
  rw [e]
  cases i with
  | zero =>
   rw [Nat.zero_mul, List.drop_zero, List.getElem_cons_zero]
   have := List.take_left' (l₂ := layL n l) (putL_len x n)
   exact this
  | succ i =>
   have h2 : (i + 1) * n = (putL x n).length + i * n := by rw [putL_len, Nat.succ_mul]; omega
   rw [h2, List.drop_append, List.drop_eq_nil_of_le (by omega), List.nil_append, Nat.add_sub_cancel_left]
   exact ih i (by simpa using h)
theorem lay_l0 (sh l : List Int) (n : Nat) (hn : n ≤ 8) (hl : l.length ≤ 100000) (hsh : sh.length ≤ 1000) : ∀ (m i k : Nat) (acc : List Int), l.length - i < m → m + 20 ≤ k → i ≤ l.length → acc.length ≤ i * n →
  typed_lay.l0 k sh (8 * (n : Int)) acc l (l.length : Int) (i : Int) = some (8 * (n : Int), sh, strOfNums (acc ++ layL n (l.drop i))) := by
 intro m
 induction m with
 | zero => intro i k acc h; omega
 | succ m ih =>
  intro i k acc h hk hi ha
  obtain ⟨k, rfl⟩ : ∃ j, k = j + 1 := ⟨k - 1, by omega⟩
  simp only [typed_lay.l0]
  by_cases hlt : i < l.length
  ·have hb : acc.length + n < 140737488355328 := by
    have : i * n ≤ 100000 * 8 := Nat.mul_le_mul (by omega) hn
    omega
   rw [if_pos (by omega), if_pos (by omega), if_pos (by omega), rd_at l i hlt, put_eq _ n hn k (by omega), Option.bind_some, putL_len, if_pos hb, nx hlt (by omega),
    ih (i + 1) k _ (by omega) (by omega) (by omega) (by rw [List.length_append, putL_len, Nat.succ_mul]; omega), List.drop_eq_getElem_cons hlt, List.append_assoc]
   rfl
  ·rw [if_neg (by omega), List.drop_eq_nil_of_le (by omega)]
   unfold slices_Clone_int_int.f
   rw [if_pos (by omega), Option.bind_some]
   simp [layL]
theorem lay_eq (sh l : List Int) (n : Nat) (hn : n ≤ 8) (hl : l.length ≤ 100000) (hsh : sh.length ≤ 1000) (k : Nat) (hk : l.length + 30 ≤ k) : typed_lay.f k l sh (8 * (n : Int)) = some (8 * (n : Int), sh, strOfNums (layL n l)) := by
 unfold typed_lay.f
 have := lay_l0 sh l n hn hl hsh (l.length + 1) 0 k [] (by omega) (by omega) (by omega) (by simp)
 rw [show (0 : Int) = ((0 : Nat) : Int) from rfl, this]
 simp
theorem known_eq (w : Int) (k : Nat) (hk : 10 ≤ k) : ∃ b, typed_known.f k w = some b ∧ (b = true ↔ w ∈ ([8, 16, 32, 64] : List Int)) := by
 unfold typed_known.f
 obtain ⟨b, h, hb⟩ := has_eq ([8, 16, 32, 64] : List Int) w (by decide) k (by simp; omega)
 rw [h]
 exact ⟨b, rfl, hb⟩
end Go.Proofs.YthcijldahbalcaaDoor
end
section
namespace Go.Proofs.YthcijldahbalcaaDoor
open Go.RowKit Go.Lib Go.Proofs.YthcijldahbalcaaDoor.P Go.Proofs.YthcijldahbalcaaDoorW.PrintWords Go.Proofs.YthcijldahbalcaaDoorW.PrintLast Go.Proofs.YthcijldahbalcaaDoorW.PrintMore
set_option linter.unusedVariables false
theorem fits8 (x : Int) (h : width_Fits.f 10 x 8 = some true) : -128 ≤ x ∧ x < 128 := by
 have k1 : shl .i64 1 (wrap64 (8 - 1)) = 128 := by kernel_rfl
 have k2 : wrap64 (-(128 : Int)) = -128 := by unfold wrap64; omega
 simp (config := { decide := true }) only [width_Fits.f, width_Fits.j0, if_true, if_false, k1, k2] at h
 rw [if_pos (by unfold wrap64; omega)] at h
 by_cases h1 : x ≥ -128
 ·rw [if_pos h1] at h
  exact ⟨h1, of_decide_eq_true (Option.some.inj h)⟩
 ·rw [if_neg h1] at h
  cases h
theorem fits16 (x : Int) (h : width_Fits.f 10 x 16 = some true) : -32768 ≤ x ∧ x < 32768 := by
 have k1 : shl .i64 1 (wrap64 (16 - 1)) = 32768 := by kernel_rfl
 have k2 : wrap64 (-(32768 : Int)) = -32768 := by unfold wrap64; omega
 simp (config := { decide := true }) only [width_Fits.f, width_Fits.j0, if_true, if_false, k1, k2] at h
 rw [if_pos (by unfold wrap64; omega)] at h
 by_cases h1 : x ≥ -32768
 ·rw [if_pos h1] at h
  exact ⟨h1, of_decide_eq_true (Option.some.inj h)⟩
 ·rw [if_neg h1] at h
  cases h
theorem fits32 (x : Int) (h : width_Fits.f 10 x 32 = some true) : -2147483648 ≤ x ∧ x < 2147483648 := by
 have k1 : shl .i64 1 (wrap64 (32 - 1)) = 2147483648 := by kernel_rfl
 have k2 : wrap64 (-(2147483648 : Int)) = -2147483648 := by unfold wrap64; omega
 simp (config := { decide := true }) only [width_Fits.f, width_Fits.j0, if_true, if_false, k1, k2] at h
 rw [if_pos (by unfold wrap64; omega)] at h
 by_cases h1 : x ≥ -2147483648
 ·rw [if_pos h1] at h
  exact ⟨h1, of_decide_eq_true (Option.some.inj h)⟩
 ·rw [if_neg h1] at h
  cases h
def Nb (n : Nat) : Prop := n = 1 ∨ n = 2 ∨ n = 4 ∨ n = 8
theorem fit1 {v : Int} (h : -128 ≤ v ∧ v < 128) : fitN 1 v := by unfold fitN; simpa using h
theorem fit2 {v : Int} (h : -32768 ≤ v ∧ v < 32768) : fitN 2 v := by unfold fitN; simpa using h
theorem fit4 {v : Int} (h : -2147483648 ≤ v ∧ v < 2147483648) : fitN 4 v := by unfold fitN; simpa using h
theorem fit8 {v : Int} (h : Wd v) : fitN 8 v := by
 unfold Wd at h
 unfold fitN
 have e : (128 : Int) * 256 ^ (8 - 1) = 9223372036854775808 := by decide
 rw [e]
 omega
theorem fit_le {n m : Nat} {v : Int} (hn : Nb n) (hm : Nb m) (h : fitN n v) (hle : n ≤ m) : fitN m v := by
 unfold fitN at h ⊢
 have e1 : (128 : Int) * 256 ^ (1 - 1) = 128 := by decide
 have e2 : (128 : Int) * 256 ^ (2 - 1) = 32768 := by decide
 have e4 : (128 : Int) * 256 ^ (4 - 1) = 2147483648 := by decide
 have e8 : (128 : Int) * 256 ^ (8 - 1) = 9223372036854775808 := by decide
 rcases hn with rfl | rfl | rfl | rfl <;> rcases hm with rfl | rfl | rfl | rfl <;> simp only [e1, e2, e4, e8] at h ⊢ <;> omega
theorem wid_fits (s : ByteArray) (hs : s.size ≤ 281474976710656) (h : widB s ≤ 64) : Wd (intB s).1 ∧ ∃ n, Nb n ∧ widB s = 8 * (n : Int) ∧ fitN n (intB s).1 := by
 have hw : Wd (intB s).1 := by
  unfold intB
  by_cases hm : mayB (L s) = true
  ·rw [if_pos hm]
   cases hp : parseIntB 64 (L s) with
   | ok v =>
    have := parseIntB_bounds hp
    have e : ((2 ^ (64 - 1) : Nat) : Int) = 9223372036854775808 := by decide
    rw [e] at this
    unfold Wd
    dsimp only
    omega
   | _ => unfold Wd; dsimp only; omega
  ·rw [if_neg hm]
   unfold Wd
   dsimp only
   omega
 refine ⟨hw, ?_⟩
 unfold widB at h ⊢
 unfold width_Of.f at h ⊢
 rw [Int_eq s hs, Option.bind_some] at h ⊢
 by_cases h2 : (intB s).2 = true
 ·rw [if_pos h2] at h ⊢
  generalize (intB s).1 = v at h hw ⊢
  obtain ⟨⟨b1, h1⟩, ⟨b2, h2⟩, ⟨b3, h3⟩, ⟨b4, h4⟩, ⟨b5, h5⟩⟩ := fits_some v
  simp only [ofC] at h ⊢
  rw [if_pos trivial, h1, Option.bind_some] at h ⊢
  cases b1 with
  | true => exact ⟨1, .inl rfl, rfl, fit1 (fits8 v h1)⟩
  | false =>
   rw [if_neg (by decide), if_neg (by decide), if_pos trivial, h2, Option.bind_some] at h ⊢
   cases b2 with
   | true => exact ⟨2, .inr (.inl rfl), rfl, fit2 (fits16 v h2)⟩
   | false =>
    rw [if_neg (by decide), if_neg (by decide), if_neg (by decide), if_pos trivial, h3, Option.bind_some] at h ⊢
    cases b3 with
    | true => exact ⟨4, .inr (.inr (.inl rfl)), rfl, fit4 (fits32 v h3)⟩
    | false =>
     rw [if_neg (by decide), if_neg (by decide), if_neg (by decide), if_neg (by decide), if_pos trivial, h4, Option.bind_some] at h ⊢
     cases b4 with
     | true => exact ⟨8, .inr (.inr (.inr rfl)), rfl, fit8 hw⟩
     | false =>
      exfalso
      rw [if_neg (by decide), if_neg (by decide), if_neg (by decide), if_neg (by decide), if_neg (by decide), if_pos trivial, h5, Option.bind_some] at h
      cases b5 with
      | true => rw [if_pos rfl] at h; revert h; decide
      | false =>
       rw [if_neg (by decide), if_neg (by decide), if_neg (by decide), if_neg (by decide), if_neg (by decide), if_neg (by decide), if_pos trivial] at h
       revert h; decide
 ·rw [if_neg h2] at h
  exact absurd h (by decide)
theorem known_nb (w : Int) (h : w ∈ ([8, 16, 32, 64] : List Int)) : ∃ n, Nb n ∧ w = 8 * (n : Int) := by
 simp only [List.mem_cons, List.not_mem_nil, or_false] at h
 rcases h with rfl | rfl | rfl | rfl
 ·exact ⟨1, .inl rfl, rfl⟩
 ·exact ⟨2, .inr (.inl rfl), rfl⟩
 ·exact ⟨4, .inr (.inr (.inl rfl)), rfl⟩
 ·exact ⟨8, .inr (.inr (.inr rfl)), rfl⟩
theorem nb_known (n : Nat) (h : Nb n) : 8 * (n : Int) ∈ ([8, 16, 32, 64] : List Int) := by
 rcases h with rfl | rfl | rfl | rfl <;> decide
def numsL (ys : List ByteArray) : List Int := ys.map fun e => (intB e).1
theorem pack_l0 (xs : List Int) (ys : List ByteArray) (n : Nat) (hn : n ≤ 8) (hy : ys.length ≤ 4096) (hx : xs.length ≤ 1000) (hs : ∀ e ∈ ys, e.size ≤ 120) : ∀ (m i k : Nat) (acc : List Int), ys.length - i < m → m + 5000 ≤ k → i ≤ ys.length → acc = numsL (ys.take i) →
  typed_Pack.l0 k (8 * (n : Int)) acc ys (ys.length : Int) (i : Int) xs ys = some (8 * (n : Int), xs, strOfNums (layL n (numsL ys)), 0) := by
 intro m
 induction m with
 | zero => intro i k acc h; omega
 | succ m ih =>
  intro i k acc h hk hi ha
  obtain ⟨k, rfl⟩ : ∃ j, k = j + 1 := ⟨k - 1, by omega⟩
  simp only [typed_Pack.l0]
  have hal : acc.length ≤ 4096 := by
   rw [ha]
   unfold numsL
   rw [List.length_map, List.length_take]
   omega
  by_cases hlt : i < ys.length
  ·have he := hs _ (List.getElem_mem hlt)
   rw [if_pos (by omega), if_pos (by omega), if_pos (by omega), rdB_at ys i hlt, Int_eq _ (by omega), Option.bind_some, if_pos (by omega), nx hlt (by omega)]
   refine ih (i + 1) k _ (by omega) (by omega) (by omega) ?_
   rw [ha]
   unfold numsL
   rw [List.take_succ_eq_append_getElem hlt, List.map_append]
   rfl
  ·rw [if_neg (by omega)]
   have hall : acc = numsL ys := by rw [ha, List.take_of_length_le (by omega)]
   rw [hall, lay_eq xs _ n hn (by unfold numsL; rw [List.length_map]; omega) hx k (by unfold numsL; rw [List.length_map]; omega), Option.bind_some]
theorem pack_eq (xs : List Int) (ys : List ByteArray) (hm : mayV xs ys = true) (hs : ∀ e ∈ ys, e.size ≤ 120) (k : Nat) (hk : 20000 ≤ k) :
  (∃ n, Nb n ∧ gmax (ys.map widB) = 8 * (n : Int) ∧ typed_Pack.f k xs ys = some (8 * (n : Int), xs, strOfNums (layL n (numsL ys)), 0)) ∨
  typed_Pack.f k xs ys = some (0, [], ⟨#[]⟩, 8) := by
 have hg := good_of xs ys hm
 have hlen : ys.length ≤ 4096 := by have := hg.size; have := hg.few; omega
 have hrk := hg.rank
 unfold typed_Pack.f
 rw [mayV_eq xs ys (by omega) k (by omega), hm, Option.bind_some, if_pos rfl, width_eq xs ys (by omega) (fun e he => by have := hs e he; omega) k (by omega), Option.bind_some]
 obtain ⟨b, hb, hw⟩ := known_eq (gmax (ys.map widB)) k (by omega)
 rw [hb, Option.bind_some]
 cases b with
 | false => rw [if_neg (by decide)]; exact .inr rfl
 | true =>
  obtain ⟨n, hn, he⟩ := known_nb _ (hw.1 rfl)
  left
  refine ⟨n, hn, he, ?_⟩
  rw [if_pos rfl, he]
  have hn8 : n ≤ 8 := by rcases hn with rfl | rfl | rfl | rfl <;> decide
  exact pack_l0 xs ys n hn8 hlen (by omega) hs (ys.length + 1) 0 k [] (by omega) (by omega) (by omega) rfl
theorem nums_fit (ys : List ByteArray) (hs : ∀ e ∈ ys, e.size ≤ 120) (n : Nat) (hn : Nb n) (hw : gmax (ys.map widB) = 8 * (n : Int)) (e : ByteArray) (he : e ∈ ys) :
  Wd (intB e).1 ∧ fitN n (intB e).1 ∧ ∃ m, Nb m ∧ m ≤ n ∧ widB e = 8 * (m : Int) ∧ fitN m (intB e).1 := by
 have h1 := gmax_ge (ys.map widB) (widB e) (List.mem_map_of_mem he)
 rw [hw] at h1
 have hn8 : n ≤ 8 := by rcases hn with rfl | rfl | rfl | rfl <;> decide
 have h2 := hs e he
 obtain ⟨a, m, hm, hwm, hf⟩ := wid_fits e (by omega) (by omega)
 have hle : m ≤ n := by omega
 exact ⟨a, fit_le hm hn hf hle, m, hm, hle, hwm, hf⟩
theorem ar1 (q n : Nat) (hn : Nb n) (hq : q ≤ 4096) : wrap64 (Int.tdiv (wrap64 ((q : Int) * (8 * (n : Int)))) 8) = ((q * n : Nat) : Int) := by
 rcases hn with rfl | rfl | rfl | rfl
 all_goals (
  rw [wrap_id (a := (q : Int) * _) (by omega) (by omega), Int.tdiv_eq_ediv_of_nonneg (by omega), wrap_id (by omega) (by omega)]
  omega)
theorem ar2 (q n : Nat) (hn : Nb n) (hq : q ≤ 4096) : wrap64 (Int.tdiv (wrap64 (((q * n : Nat) : Int) * 8)) (8 * (n : Int))) = (q : Int) := by
 rcases hn with rfl | rfl | rfl | rfl
 all_goals (
  rw [wrap_id (a := _ * (8 : Int)) (by omega) (by omega), Int.tdiv_eq_ediv_of_nonneg (by omega), wrap_id (by omega) (by omega)]
  omega)
theorem ar3 (n : Nat) (h : n ≤ 8) : wrap64 (Int.tdiv (8 * (n : Int)) 8) = (n : Int) := by
 rw [Int.tdiv_eq_ediv_of_nonneg (by omega)]
 have : 8 * (n : Int) / 8 = (n : Int) := by omega
 rw [this]
 exact wrap_id (by omega) (by omega)
theorem ar4 (i n : Nat) (h : i * n ≤ 1000000) : wrap64 ((i : Int) * (n : Int)) = ((i * n : Nat) : Int) := by
 rw [← Int.natCast_mul]
 exact w_small _ h
theorem tmay_eq (xs l : List Int) (n : Nat) (hn : Nb n) (hz : sizeL xs = ((l.length : Int), 0)) (hl : l.length ≤ 4096) (k : Nat) (hk : 20 ≤ k) : typed_Typed_May.f k (8 * (n : Int)) xs (strOfNums (layL n l)) = some true := by
 unfold typed_Typed_May.f
 rw [size_eq xs k (by omega), hz, Option.bind_some]
 obtain ⟨b, hb, hw⟩ := known_eq (8 * (n : Int)) k (by omega)
 rw [hb, hw.2 (nb_known n hn), Option.bind_some, if_pos rfl, if_pos rfl, strOfNums_size, layL_len]
 dsimp only
 rw [ar1 l.length n hn hl, beq_self_eq_true]
theorem tmany_eq (xs l : List Int) (n : Nat) (hn : Nb n) (hz : sizeL xs = ((l.length : Int), 0)) (hl : l.length ≤ 4096) (k : Nat) (hk : 20 ≤ k) : typed_Typed_Many.f k (8 * (n : Int)) xs (strOfNums (layL n l)) = some (l.length : Int) := by
 unfold typed_Typed_Many.f
 rw [tmay_eq xs l n hn hz hl k hk, Option.bind_some, if_pos rfl, strOfNums_size, layL_len, if_neg (by rcases hn with rfl | rfl | rfl | rfl <;> decide), ar2 l.length n hn hl]
theorem tat_in (xs l : List Int) (n : Nat) (hn : Nb n) (hz : sizeL xs = ((l.length : Int), 0)) (hl : l.length ≤ 4096) (i : Nat) (hi : i < l.length) (hw : Wd l[i]) (hf : fitN n l[i]) (k : Nat) (hk : 20 ≤ k) : typed_Typed_At.f k (8 * (n : Int)) xs (strOfNums (layL n l)) (i : Int) = some (l[i], true) := by
 unfold typed_Typed_At.f
 have hn1 : 1 ≤ n ∧ n ≤ 8 := by rcases hn with rfl | rfl | rfl | rfl <;> decide
 have hm : (i + 1) * n ≤ l.length * n := Nat.mul_le_mul_right _ hi
 have hm2 : l.length * n ≤ 4096 * 8 := Nat.mul_le_mul hl hn1.2
 have hm3 : i * n + n = (i + 1) * n := (Nat.succ_mul i n).symm
 have b1 : i * n ≤ 1000000 := by omega
 have b2 : (i + 1) * n ≤ 1000000 := by omega
 have b3 : i * n ≤ (i + 1) * n := by omega
 have b4 : (i + 1) * n - i * n = n := by omega
 have hsz : (strOfNums (layL n l)).size = l.length * n := by rw [strOfNums_size, layL_len]
 have q2 : ((i * n : Nat) : Int) ≤ (((i + 1) * n : Nat) : Int) := Int.ofNat_le.2 b3
 have q3 : (((i + 1) * n : Nat) : Int) ≤ ((l.length * n : Nat) : Int) := Int.ofNat_le.2 hm
 rw [if_neg (Int.not_lt.2 (Int.natCast_nonneg i)), tmany_eq xs l n hn hz hl k hk, Option.bind_some, if_neg (nle hi), ar3 n hn1.2, ar4 i n b1, nx hi (Nat.le_trans hl (by decide)), ar4 (i + 1) n b2, if_pos (Int.natCast_nonneg _), if_pos q2, hsz, if_pos q3, Int.toNat_natCast, Int.toNat_natCast]
 clear q2 q3
 have hb : bytesI ((strOfNums (layL n l)).extract (i * n) ((i + 1) * n)) = putL l[i] n := by
  rw [bytesI_ext, bytesI_str _ (layL_byte n l)]
  rw [b4]
  exact layL_at n l i hi
 have hlen : ((strOfNums (layL n l)).extract (i * n) ((i + 1) * n)).size = n := by
  rw [← bytesI_len, hb, putL_len]
 rw [get_eq _ (by rw [hlen]; omega) (by rw [hlen]; exact hn1.1) k (by rw [hlen]; omega), Option.bind_some, hb]
 obtain ⟨m, rfl⟩ : ∃ m, n = m + 1 := ⟨n - 1, by omega⟩
 rw [get_put m l[i] hf hw]
theorem shown05_60 : reredoslaw05_shown.f 60 = some true := by
 have e1 : typed_Pack.f 60 ([2] : List Int) [(⟨#[49]⟩ : ByteArray), ⟨#[45, 49]⟩] = some (8, [2], ⟨#[1, 255]⟩, 0) := by kernel_rfl
 have e2 : typed_Typed_At.f 60 8 [2] ⟨#[1, 255]⟩ 1 = some (-1, true) := by kernel_rfl
 have e3 : typed_Typed_Many.f 60 8 [2] ⟨#[1, 255]⟩ = some 2 := by kernel_rfl
 have e4 : typed_Typed_May.f 60 8 [2] ⟨#[1, 255]⟩ = some true := by kernel_rfl
 have e5 : (⟨#[1, 255]⟩ : ByteArray).toList = ([1, 255] : List UInt8) := by rw [toList_L]
 simp only [reredoslaw05_shown.f, Option.bind_some, e1, e2, e3, e4, e5, if_true]
theorem shown05_eq (k : Nat) (hk : 60 ≤ k) : reredoslaw05_shown.f k = some true := up_of reredoslaw05_shown.mono shown05_60 k hk
end Go.Proofs.YthcijldahbalcaaDoor
end
section
namespace Go.Proofs.YthcijldahbalcaaDoor
open Go.RowKit Go.Lib Go.Proofs.YthcijldahbalcaaDoor.P Go.Proofs.YthcijldahbalcaaDoorW.PrintWords Go.Proofs.YthcijldahbalcaaDoorW.PrintLast Go.Proofs.YthcijldahbalcaaDoorW.PrintMore
set_option linter.unusedVariables false
theorem wid_int (s : ByteArray) (hs : s.size ≤ 281474976710656) (h : widB s ≤ 64) : (intB s).2 = true := by
 cases h2 : (intB s).2 with
 | true => rfl
 | false =>
  exfalso
  unfold widB width_Of.f at h
  rw [Int_eq s hs, Option.bind_some, h2, if_neg (by decide)] at h
  revert h
  decide
theorem fitsN (x : Int) (hx : Wd x) (n : Nat) (hn : Nb n) (k : Nat) (hk : 1 ≤ k) : ∃ b, width_Fits.f k x (8 * (n : Int)) = some b ∧ (b = true ↔ fitN n x) := by
 obtain ⟨k, rfl⟩ : ∃ j, k = j + 1 := ⟨k - 1, by omega⟩
 have k1 : shl .i64 1 (wrap64 (8 - 1)) = 128 := by kernel_rfl
 have k2 : shl .i64 1 (wrap64 (16 - 1)) = 32768 := by kernel_rfl
 have k3 : shl .i64 1 (wrap64 (32 - 1)) = 2147483648 := by kernel_rfl
 have m1 : wrap64 (-(128 : Int)) = -128 := by unfold wrap64; omega
 have m2 : wrap64 (-(32768 : Int)) = -32768 := by unfold wrap64; omega
 have m3 : wrap64 (-(2147483648 : Int)) = -2147483648 := by unfold wrap64; omega
 have e1 : (128 : Int) * 256 ^ (1 - 1) = 128 := by decide
 have e2 : (128 : Int) * 256 ^ (2 - 1) = 32768 := by decide
 have e4 : (128 : Int) * 256 ^ (4 - 1) = 2147483648 := by decide
 rcases hn with rfl | rfl | rfl | rfl
 ·show ∃ b, width_Fits.f (k + 1) x 8 = some b ∧ _
  simp (config := { decide := true }) only [width_Fits.f, width_Fits.j0, if_true, if_false, k1, m1]
  rw [if_pos (by unfold wrap64; omega)]
  unfold fitN
  rw [e1]
  by_cases h : x ≥ -128
  ·rw [if_pos h]; exact ⟨_, rfl, by rw [decide_eq_true_eq]; omega⟩
  ·rw [if_neg h]; exact ⟨_, rfl, ⟨fun h2 => (by cases h2), fun h2 => absurd h2.1 h⟩⟩
 ·show ∃ b, width_Fits.f (k + 1) x 16 = some b ∧ _
  simp (config := { decide := true }) only [width_Fits.f, width_Fits.j0, if_true, if_false, k2, m2]
  rw [if_pos (by unfold wrap64; omega)]
  unfold fitN
  rw [e2]
  by_cases h : x ≥ -32768
  ·rw [if_pos h]; exact ⟨_, rfl, by rw [decide_eq_true_eq]; omega⟩
  ·rw [if_neg h]; exact ⟨_, rfl, ⟨fun h2 => (by cases h2), fun h2 => absurd h2.1 h⟩⟩
 ·show ∃ b, width_Fits.f (k + 1) x 32 = some b ∧ _
  simp (config := { decide := true }) only [width_Fits.f, width_Fits.j0, if_true, if_false, k3, m3]
  rw [if_pos (by unfold wrap64; omega)]
  unfold fitN
  rw [e4]
  by_cases h : x ≥ -2147483648
  ·rw [if_pos h]; exact ⟨_, rfl, by rw [decide_eq_true_eq]; omega⟩
  ·rw [if_neg h]; exact ⟨_, rfl, ⟨fun h2 => (by cases h2), fun h2 => absurd h2.1 h⟩⟩
 ·show ∃ b, width_Fits.f (k + 1) x 64 = some b ∧ _
  simp (config := { decide := true }) only [width_Fits.f, width_Fits.j0, if_true, if_false]
  exact ⟨_, rfl, by simpa using fit8 hx⟩
theorem wid_least (s : ByteArray) (hs : s.size ≤ 281474976710656) (n m : Nat) (hn : Nb n) (hm : Nb m) (hw : widB s = 8 * (n : Int)) (hlt : m < n) : ¬ fitN m (intB s).1 := by
 have hn8 : n ≤ 8 := by rcases hn with rfl | rfl | rfl | rfl <;> decide
 obtain ⟨hwd, _⟩ := wid_fits s hs (by omega)
 have hi := wid_int s hs (by omega)
 intro hf
 unfold widB width_Of.f at hw
 rw [Int_eq s hs, Option.bind_some, if_pos hi] at hw
 generalize (intB s).1 = v at hw hwd hf
 have F : ∀ q, Nb q → fitN q v → width_Fits.f 10 v (8 * (q : Int)) = some true := fun q hq hfq => by
  obtain ⟨b, h1, h2⟩ := fitsN v hwd q hq 10 (by decide)
  rw [h1, h2.2 hfq]
 simp only [ofC] at hw
 rcases hm with rfl | rfl | rfl | rfl
 ·have h1 : width_Fits.f 10 v 8 = some true := F 1 (.inl rfl) hf
  rw [if_pos trivial, h1, Option.bind_some, if_pos rfl] at hw
  have : (8 : Int) = 8 * (n : Int) := hw
  omega
 ·have h1 : width_Fits.f 10 v 16 = some true := F 2 (.inr (.inl rfl)) hf
  obtain ⟨⟨b1, g1⟩, _⟩ := fits_some v
  rw [if_pos trivial, g1, Option.bind_some] at hw
  cases b1 with
  | true =>
   have : (8 : Int) = 8 * (n : Int) := hw
   omega
  | false =>
   rw [if_neg (by decide), if_neg (by decide), if_pos trivial, h1, Option.bind_some, if_pos rfl] at hw
   have : (16 : Int) = 8 * (n : Int) := hw
   omega
 ·have h1 : width_Fits.f 10 v 32 = some true := F 4 (.inr (.inr (.inl rfl))) hf
  obtain ⟨⟨b1, g1⟩, ⟨b2, g2⟩, _⟩ := fits_some v
  rw [if_pos trivial, g1, Option.bind_some] at hw
  cases b1 with
  | true =>
   have : (8 : Int) = 8 * (n : Int) := hw
   omega
  | false =>
   rw [if_neg (by decide), if_neg (by decide), if_pos trivial, g2, Option.bind_some] at hw
   cases b2 with
   | true =>
    have : (16 : Int) = 8 * (n : Int) := hw
    omega
   | false =>
    rw [if_neg (by decide), if_neg (by decide), if_neg (by decide), if_pos trivial, h1, Option.bind_some, if_pos rfl] at hw
    have : (32 : Int) = 8 * (n : Int) := hw
    omega
 ·omega
theorem all_l0 (xs l : List Int) (n : Nat) (hn : Nb n) (hz : sizeL xs = ((l.length : Int), 0)) (hl : l.length ≤ 4096) (hf : ∀ x ∈ l, Wd x ∧ fitN n x) : ∀ (m i k : Nat) (acc : List Int), l.length - i < m → m + 30 ≤ k → i ≤ l.length → acc = l.take i →
  typed_Typed_all.l0 k acc (l.length : Int) (i : Int) (8 * (n : Int)) xs (strOfNums (layL n l)) = some l := by
 intro m
 induction m with
 | zero => intro i k acc h; omega
 | succ m ih =>
  intro i k acc h hk hi ha
  obtain ⟨k, rfl⟩ : ∃ j, k = j + 1 := ⟨k - 1, by omega⟩
  simp only [typed_Typed_all.l0]
  have hal : acc.length ≤ 4096 := by
   rw [ha, List.length_take]
   omega
  by_cases hlt : i < l.length
  ·have hx := hf _ (List.getElem_mem hlt)
   rw [if_pos (by omega), tat_in xs l n hn hz hl i hlt hx.1 hx.2 k (by omega), Option.bind_some, if_pos (by omega), nx hlt (by omega)]
   refine ih (i + 1) k _ (by omega) (by omega) (by omega) ?_
   rw [ha, List.take_succ_eq_append_getElem hlt]
  ·rw [if_neg (by omega), ha, List.take_of_length_le (by omega)]
theorem all_eq (xs l : List Int) (n : Nat) (hn : Nb n) (hz : sizeL xs = ((l.length : Int), 0)) (hl : l.length ≤ 4096) (hf : ∀ x ∈ l, Wd x ∧ fitN n x) (k : Nat) (hk : 5000 ≤ k) : typed_Typed_all.f k (8 * (n : Int)) xs (strOfNums (layL n l)) = some l := by
 unfold typed_Typed_all.f
 rw [tmany_eq xs l n hn hz hl k (by omega), Option.bind_some]
 exact all_l0 xs l n hn hz hl hf (l.length + 1) 0 k [] (by omega) (by omega) (by omega) rfl
theorem val_l0 (xs l : List Int) (hl : l.length ≤ 4096) (hf : ∀ x ∈ l, Wd x) : ∀ (m i k : Nat) (acc : List ByteArray), l.length - i < m → m ≤ k → i ≤ l.length → acc = (l.take i).map decB →
  typed_Typed_Val.l0 k l (l.length : Int) (i : Int) xs acc = some (xs, l.map decB, true) := by
 intro m
 induction m with
 | zero => intro i k acc h; omega
 | succ m ih =>
  intro i k acc h hk hi ha
  obtain ⟨k, rfl⟩ : ∃ j, k = j + 1 := ⟨k - 1, by omega⟩
  simp only [typed_Typed_Val.l0]
  have hal : acc.length ≤ 4096 := by
   rw [ha, List.length_map, List.length_take]
   omega
  by_cases hlt : i < l.length
  ·have hx := hf _ (List.getElem_mem hlt)
   rw [if_pos (by omega), if_pos (by omega), if_pos (by omega), rd_at l i hlt, numOf_eq _ hx.1 hx.2, Option.bind_some, if_pos (by omega), nx hlt (by omega)]
   refine ih (i + 1) k _ (by omega) (by omega) (by omega) ?_
   rw [ha, List.take_succ_eq_append_getElem hlt, List.map_append]
   rfl
  ·rw [if_neg (by omega), ha, List.take_of_length_le (by omega)]
theorem val_eq (xs l : List Int) (n : Nat) (hn : Nb n) (hz : sizeL xs = ((l.length : Int), 0)) (hxs : xs.length ≤ 1000) (hl : l.length ≤ 4096) (hf : ∀ x ∈ l, Wd x ∧ fitN n x) (k : Nat) (hk : 5000 ≤ k) : typed_Typed_Val.f k (8 * (n : Int)) xs (strOfNums (layL n l)) = some (xs, l.map decB, true) := by
 unfold typed_Typed_Val.f
 rw [tmay_eq xs l n hn hz hl k (by omega), Option.bind_some, if_pos rfl]
 unfold slices_Clone_int_int.f
 rw [if_pos (by omega), Option.bind_some, all_eq xs l n hn hz hl hf k hk, Option.bind_some]
 exact val_l0 xs l hl (fun x hx => (hf x hx).1) (l.length + 1) 0 k [] (by omega) (by omega) (by omega) rfl
theorem idx_l0 (l : List Int) (n : Nat) (hn : Nb n) (hl : l.length ≤ 4096) (hf : ∀ x ∈ l, Wd x) : ∀ (m i k : Nat), l.length - i < m → m + 2 ≤ k → i ≤ l.length →
  ∃ t, IndexFunc_To.l0 k (8 * (n : Int)) l (l.length : Int) (i : Int) = some t ∧ (t ≥ 0 ↔ ∃ x ∈ l.drop i, ¬ fitN n x) := by
 intro m
 induction m with
 | zero => intro i k h; omega
 | succ m ih =>
  intro i k h hk hi
  obtain ⟨k, rfl⟩ : ∃ j, k = j + 1 := ⟨k - 1, by omega⟩
  simp only [IndexFunc_To.l0]
  by_cases hlt : i < l.length
  ·have hx := hf _ (List.getElem_mem hlt)
   obtain ⟨b, hb, hbi⟩ := fitsN l[i] hx n hn k (by omega)
   rw [if_pos (by omega), if_pos (by omega), if_pos (by omega), rd_at l i hlt]
   unfold typed_To_1.f
   rw [hb, Option.bind_some, Option.bind_some, List.drop_eq_getElem_cons hlt]
   cases b with
   | false =>
    rw [if_pos (by decide)]
    refine ⟨_, rfl, fun _ => ⟨l[i], List.mem_cons_self, fun hq => by cases hbi.2 hq⟩, fun _ => by omega⟩
   | true =>
    rw [if_neg (by decide), nx hlt (by omega)]
    obtain ⟨t, h1, h2⟩ := ih (i + 1) k (by omega) (by omega) (by omega)
    refine ⟨t, h1, h2.trans ⟨fun ⟨x, hx1, hx2⟩ => ⟨x, List.mem_cons_of_mem _ hx1, hx2⟩, fun ⟨x, hx1, hx2⟩ => ?_⟩⟩
    rcases List.mem_cons.1 hx1 with hq | hq
    ·rw [hq] at hx2
     exact absurd (hbi.1 rfl) hx2
    ·exact ⟨x, hq, hx2⟩
  ·rw [if_neg (by omega), List.drop_eq_nil_of_le (by omega)]
   exact ⟨_, rfl, by simp⟩
theorem cont_eq (l : List Int) (n : Nat) (hn : Nb n) (hl : l.length ≤ 4096) (hf : ∀ x ∈ l, Wd x) (k : Nat) (hk : 5000 ≤ k) : ∃ c, ContainsFunc_To.f k l (8 * (n : Int)) = some c ∧ (c = true ↔ ∃ x ∈ l, ¬ fitN n x) := by
 unfold ContainsFunc_To.f IndexFunc_To.f
 obtain ⟨t, h1, h2⟩ := idx_l0 l n hn hl hf (l.length + 1) 0 k (by omega) (by omega) (by omega)
 rw [List.drop_zero] at h2
 have h3 : IndexFunc_To.l0 k (8 * (n : Int)) l (l.length : Int) 0 = some t := h1
 rw [h3, Option.bind_some]
 exact ⟨_, rfl, by rw [decide_eq_true_eq]; exact h2⟩
theorem to_eq (xs l : List Int) (n m : Nat) (hn : Nb n) (hm : Nb m) (hz : sizeL xs = ((l.length : Int), 0)) (hxs : xs.length ≤ 1000) (hl : l.length ≤ 4096) (hf : ∀ x ∈ l, Wd x ∧ fitN n x) (k : Nat) (hk : 5000 ≤ k) :
  ((∀ x ∈ l, fitN m x) ∧ typed_Typed_To.f k (8 * (n : Int)) xs (strOfNums (layL n l)) (8 * (m : Int)) = some (8 * (m : Int), xs, strOfNums (layL m l), true)) ∨
  ((∃ x ∈ l, ¬ fitN m x) ∧ typed_Typed_To.f k (8 * (n : Int)) xs (strOfNums (layL n l)) (8 * (m : Int)) = some (0, [], ⟨#[]⟩, false)) := by
 have hm8 : m ≤ 8 := by rcases hm with rfl | rfl | rfl | rfl <;> decide
 unfold typed_Typed_To.f
 obtain ⟨b, hb, hw⟩ := known_eq (8 * (m : Int)) k (by omega)
 obtain ⟨c, hc, hci⟩ := cont_eq l m hm hl (fun x hx => (hf x hx).1) k hk
 rw [all_eq xs l n hn hz hl hf k hk, Option.bind_some, tmay_eq xs l n hn hz hl k (by omega), Option.bind_some, if_pos rfl, hb, hw.2 (nb_known m hm), Option.bind_some, if_pos rfl, hc, Option.bind_some]
 cases c with
 | true => rw [if_pos rfl]; exact .inr ⟨hci.1 rfl, rfl⟩
 | false =>
  left
  rw [if_neg (by decide), lay_eq xs l m hm8 (by omega) hxs k (by omega), Option.bind_some]
  refine ⟨fun x hx => ?_, rfl⟩
  apply Classical.byContradiction
  intro hq
  cases hci.2 ⟨x, hx, hq⟩
end Go.Proofs.YthcijldahbalcaaDoor
end
section
namespace Go.Proofs.YthcijldahbalcaaDoor.Pure
open Go.RowKit Go.Lib Go.Proofs.YthcijldahbalcaaDoor Go.Proofs.YthcijldahbalcaaDoor.P Go.Proofs.YthcijldahbalcaaDoorW.PrintWords Go.Proofs.YthcijldahbalcaaDoorW.PrintLast Go.Proofs.YthcijldahbalcaaDoorW.PrintMore
set_option linter.unusedVariables false
theorem fit_wd (m : Nat) (v : Int) (h1 : 1 ≤ m) (h8 : m ≤ 8) (h : fitN m v) : Wd v := by
 have hm : m = 1 ∨ m = 2 ∨ m = 3 ∨ m = 4 ∨ m = 5 ∨ m = 6 ∨ m = 7 ∨ m = 8 := by omega
 unfold fitN at h
 unfold Wd
 rcases hm with rfl | rfl | rfl | rfl | rfl | rfl | rfl | rfl <;> simp at h <;> omega
theorem put_get : ∀ (n : Nat) (c : List Int), c.length = n + 1 → (∀ b ∈ c, 0 ≤ b ∧ b < 256) → n + 1 ≤ 8 → fitN (n + 1) (getV c) ∧ putL (getV c) (n + 1) = c
 | 0, c, hl, hb, _ => by
  obtain ⟨b, rfl⟩ := List.length_eq_one_iff.1 hl
  have h := hb b (by simp)
  have hv : getV [b] = IntKind.i8.wrap b := rfl
  have hw : -128 ≤ IntKind.i8.wrap b ∧ IntKind.i8.wrap b < 128 ∧ IntKind.i8.wrap b % 256 = b := by
   simp only [IntKind.wrap, IntKind.bits, IntKind.signed]
   simp
   split <;> omega
  rw [hv]
  refine ⟨fit1 ⟨hw.1, hw.2.1⟩, ?_⟩
  simp [putL, hw.2.2]
 | n + 1, c, hl, hb, h8 => by
  have hne : c ≠ [] := by intro hq; rw [hq] at hl; simp at hl
  have hsp := List.dropLast_concat_getLast hne
  obtain ⟨c', hc'⟩ : ∃ c', c.dropLast = c' := ⟨_, rfl⟩
  obtain ⟨b, hbb⟩ : ∃ b, c.getLast hne = b := ⟨_, rfl⟩
  rw [hc', hbb] at hsp
  have hl' : c'.length = n + 1 := by
   have := congrArg List.length hsp
   rw [List.length_append, hl] at this
   simp at this
   omega
  have hne' : c' ≠ [] := by intro hq; rw [hq] at hl'; simp at hl'
  have hb' := hb b (by rw [← hsp]; simp)
  obtain ⟨f1, f2⟩ := put_get n c' hl' (fun x hx => hb x (by rw [← hsp]; simp [hx])) (by omega)
  have hfit : fitN (n + 1 + 1) (getV c' * 256 + b) := by
   unfold fitN at f1 ⊢
   have e : n + 1 + 1 - 1 = n + 1 := by omega
   have e2 : n + 1 - 1 = n := by omega
   rw [e2] at f1
   rw [e, Int.pow_succ]
   generalize (256 : Int) ^ n = p at f1 ⊢
   omega
  have hwd := fit_wd (n + 1 + 1) _ (by omega) h8 hfit
  unfold Wd at hwd
  have hv : getV c = getV c' * 256 + b := by
   rw [← hsp, getV_snoc c' b hne']
   exact wrap_id hwd.1 hwd.2
  rw [hv]
  refine ⟨hfit, ?_⟩
  show putL ((getV c' * 256 + b) / 256) (n + 1) ++ [(getV c' * 256 + b) % 256] = c
  rw [show (getV c' * 256 + b) / 256 = getV c' by omega, show (getV c' * 256 + b) % 256 = b by omega, f2, hsp]
def chunkL (n : Nat) : Nat → List Int → List Int
 | 0, _ => []
 | q + 1, bs => getV (bs.take n) :: chunkL n q (bs.drop n)
theorem chunk_len (n q : Nat) (bs : List Int) : (chunkL n q bs).length = q := by
 induction q generalizing bs with
 | zero => rfl
 | succ q ih => simp [chunkL, ih]
theorem chunk_ok (n : Nat) (h1 : 1 ≤ n) (h8 : n ≤ 8) : ∀ (q : Nat) (bs : List Int), bs.length = q * n → (∀ b ∈ bs, 0 ≤ b ∧ b < 256) → layL n (chunkL n q bs) = bs ∧ ∀ x ∈ chunkL n q bs, Wd x ∧ fitN n x
 | 0, bs, hl, _ => by
  have : bs = [] := List.eq_nil_of_length_eq_zero (by omega)
  subst this
  exact ⟨rfl, fun x hx => by simp [chunkL] at hx⟩
 | q + 1, bs, hl, hb => by
  have hm : (q + 1) * n = q * n + n := Nat.succ_mul q n
  obtain ⟨m, rfl⟩ : ∃ m, n = m + 1 := ⟨n - 1, by omega⟩
  have ht : (bs.take (m + 1)).length = m + 1 := by rw [List.length_take]; omega
  obtain ⟨f1, f2⟩ := put_get m (bs.take (m + 1)) ht (fun b hx => hb b (List.mem_of_mem_take hx)) h8
  obtain ⟨g1, g2⟩ := chunk_ok (m + 1) h1 h8 q (bs.drop (m + 1)) (by rw [List.length_drop]; omega) (fun b hx => hb b (List.mem_of_mem_drop hx))
  constructor
  ·show putL (getV (bs.take (m + 1))) (m + 1) ++ layL (m + 1) (chunkL (m + 1) q (bs.drop (m + 1))) = bs
   rw [f2, g1, List.take_append_drop]
  ·intro x hx
   simp only [chunkL, List.mem_cons] at hx
   rcases hx with rfl | hx
   ·exact ⟨fit_wd _ _ h1 h8 f1, f1⟩
   ·exact g2 x hx
theorem str_back (s : ByteArray) : strOfNums (bytesI s) = s := by
 apply L_ext
 show (bytesI s).map (fun n => UInt8.ofNat n.toNat) = L s
 unfold bytesI
 rw [List.map_map]
 conv => rhs; rw [← List.map_id (L s)]
 apply List.map_congr_left
 intro c _
 simp
theorem wid64 (x : Int) (hx : Wd x) (n : Nat) (hn : Nb n) (hf : fitN n x) : ∃ m, Nb m ∧ m ≤ n ∧ widB (decB x) = 8 * (m : Int) := by
 have hs := decB_size x hx.1 hx.2
 have hi := int_decB x hx.1 hx.2
 have h64 : widB (decB x) ≤ 64 := by
  have h := (Of_eq (decB x) (by omega)).1
  unfold width_Of.f at h
  rw [Int_eq (decB x) (by omega), Option.bind_some, hi, if_pos rfl] at h
  obtain ⟨⟨b1, h1⟩, ⟨b2, h2⟩, ⟨b3, h3⟩, ⟨b4, h4⟩, ⟨b5, h5⟩⟩ := fits_some x
  obtain ⟨b, g1, g2⟩ := fitsN x hx 8 (.inr (.inr (.inr rfl))) 10 (by decide)
  have h4' : b4 = true := by
   have e : width_Fits.f 10 x 64 = some b := g1
   rw [h4] at e
   rw [Option.some.inj e]
   exact g2.2 (fit8 hx)
  subst h4'
  simp only [ofC, h1, h2, h3, h4, h5, Option.bind_some] at h
  cases b1 <;> cases b2 <;> cases b3 <;> simp at h <;> omega
 obtain ⟨_, m, hm, hw, _⟩ := wid_fits (decB x) (by omega) h64
 refine ⟨m, hm, ?_, hw⟩
 apply Decidable.byContradiction
 intro hlt
 have hfd : fitN n (intB (decB x)).1 := by rw [hi]; exact hf
 exact wid_least (decB x) (by omega) m n hm hn hw (by omega) hfd
theorem nums_dec (l : List Int) (hf : ∀ x ∈ l, Wd x) : numsL (l.map decB) = l := by
 unfold numsL
 rw [List.map_map]
 conv => rhs; rw [← List.map_id l]
 apply List.map_congr_left
 intro x hx
 show (intB (decB x)).1 = x
 rw [int_decB x (hf x hx).1 (hf x hx).2]
set_option maxHeartbeats 1000000 in
theorem TypedBytes : reredoslaw05_TypedBytes.Pure := by
 intro s a1 _ ha
 have hb1 : 0 ≤ a1 ∧ a1 ≤ 255 := by simpa [Lit.wf, IntKind.min, IntKind.max, IntKind.signed, IntKind.bits] using ha
 obtain ⟨K, hK⟩ : ∃ K : Nat, 30000 ≤ K := ⟨30000, Nat.le_refl _⟩
 refine ⟨K + 2, ?_⟩
 unfold reredoslaw05_TypedBytes.f
 rw [shown05_eq (K + 2) (by omega), Option.bind_some, Option.bind_some]
 have t1 : 0 ≤ Int.tmod a1 4 := Int.tmod_nonneg _ hb1.1
 have t2 : Int.tmod a1 4 < 4 := Int.tmod_lt_of_pos _ (by decide)
 have hl4 : (([8, 16, 32, 64] : List Int).length : Int) = 4 := rfl
 obtain ⟨n, hn, hrd⟩ : ∃ m, Nb m ∧ rd ([8, 16, 32, 64] : List Int) (Int.tmod a1 4) = 8 * (m : Int) := by
  generalize Int.tmod a1 4 = q at t1 t2
  have hq : q = 0 ∨ q = 1 ∨ q = 2 ∨ q = 3 := by omega
  rcases hq with rfl | rfl | rfl | rfl
  ·exact ⟨1, .inl rfl, rfl⟩
  ·exact ⟨2, .inr (.inl rfl), rfl⟩
  ·exact ⟨4, .inr (.inr (.inl rfl)), rfl⟩
  ·exact ⟨8, .inr (.inr (.inr rfl)), rfl⟩
 have hn1 : 1 ≤ n ∧ n ≤ 8 := by rcases hn with rfl | rfl | rfl | rfl <;> decide
 rw [if_pos t1, hl4, if_pos t2, hrd]
 by_cases hbig : (s.size : Int) > 2400
 ·rw [if_pos hbig, reredoslaw05_TypedBytes.j0, if_pos rfl]
 ·have hn0 : ¬ ((n : Int) = 0) := by omega
  rw [if_neg hbig, ar3 n hn1.2, if_neg hn0, reredoslaw05_TypedBytes.j0, ar3 n hn1.2]
  cases hr : ((s.size : Int) % (n : Int) != 0) with
  | true => rw [if_pos rfl]
  | false =>
   have hr0 : (s.size : Int) % (n : Int) = 0 := by simpa using hr
   obtain ⟨q, hq⟩ : ∃ q : Nat, s.size = q * n := by
    have hd : n ∣ s.size := Int.natCast_dvd_natCast.1 (Int.dvd_of_emod_eq_zero hr0)
    obtain ⟨q, hq⟩ := hd
    exact ⟨q, by rw [hq, Nat.mul_comm]⟩
   have hqle : q ≤ 2400 := by
    have : q * 1 ≤ q * n := Nat.mul_le_mul_left q hn1.1
    omega
   have hdiv : (s.size : Int) / (n : Int) = (q : Int) := by
    rw [hq, Int.natCast_mul]
    exact Int.mul_ediv_cancel _ hn0
   have hwq : wrap64 ((s.size : Int) / (n : Int)) = (q : Int) := by
    rw [hdiv]
    exact w_small q (by omega)
   rw [if_neg (by decide), if_neg hn0, hwq, Option.bind_some]
   clear hwq hdiv hrd t1 t2 hl4
   obtain ⟨l, hl⟩ : ∃ l, l = chunkL n q (bytesI s) := ⟨_, rfl⟩
   obtain ⟨g1, g2⟩ := chunk_ok n hn1.1 hn1.2 q (bytesI s) (by rw [bytesI_len, hq]) (bytesI_byte s)
   rw [← hl] at g1 g2
   have hll : l.length = q := by rw [hl, chunk_len]
   have hsl : strOfNums (layL n l) = s := by rw [g1, str_back]
   have hsz : sizeL [(q : Int)] = ((l.length : Int), 0) := by
    have := sizeL_of [(q : Int)] (by simp) (by intro d hd; rw [List.mem_singleton] at hd; omega) (by intro d hd; rw [List.mem_singleton] at hd; omega) (by show (q : Int) * 1 ≤ 4096; omega)
    rw [this, hll]
    show ((q : Int) * 1, (0 : Int)) = _
    rw [Int.mul_one]
   have hv := val_eq [(q : Int)] l n hn hsz (by simp) (by omega) g2 K (by omega)
   have hmy := tmay_eq [(q : Int)] l n hn hsz (by omega) K (by omega)
   rw [hsl] at hv hmy
   have hk1 : K + 1 ≥ 5000 := by omega
   have hv1 := val_eq [(q : Int)] l n hn hsz (by simp) (by omega) g2 (K + 1) (by omega)
   have hmy1 := tmay_eq [(q : Int)] l n hn hsz (by omega) (K + 1) (by omega)
   rw [hsl] at hv1 hmy1
   rw [hv1, Option.bind_some, hmy1, Option.bind_some, if_pos rfl]
   dsimp only
   have hyl : (l.map decB).length = q := by rw [List.length_map, hll]
   have hgood : mayV [(q : Int)] (l.map decB) = true := by
    refine mayV_of ⟨by simp, by intro d hd; rw [List.mem_singleton] at hd; omega, by intro d hd; rw [List.mem_singleton] at hd; omega, ?_, ?_, ?_⟩
    ·rw [hyl]; show (q : Int) = (q : Int) * 1; omega
    ·show (q : Int) * 1 ≤ 4096; omega
    ·intro e he
     obtain ⟨x, hx, rfl⟩ := List.mem_map.1 he
     rw [L_decB]
     exact (may_itoa x (g2 x hx).1.1 (g2 x hx).1.2).1
   have hsmall : ∀ e ∈ l.map decB, e.size ≤ 120 := fun e he => by
    obtain ⟨x, hx, rfl⟩ := List.mem_map.1 he
    have := decB_size x (g2 x hx).1.1 (g2 x hx).1.2
    omega
   rw [if_pos rfl, mayV_eq _ _ (by omega) (K + 1) (by omega), hgood, Option.bind_some, if_pos rfl, hyl]
   have hne : ((q : Int) != (q : Int)) = false := by simp
   rw [hne, reredoslaw05_TypedBytes.j1, if_neg (by decide)]
   have hnums := nums_dec l (fun x hx => (g2 x hx).1)
   have hwid : ∃ m, Nb m ∧ m ≤ n ∧ gmax ((l.map decB).map widB) = 8 * (m : Int) := by
    rcases gmax_mem ((l.map decB).map widB) with h | h
    ·exact ⟨1, .inl rfl, hn1.1, h⟩
    ·obtain ⟨e, he, hq2⟩ := List.mem_map.1 h
     obtain ⟨x, hx, rfl⟩ := List.mem_map.1 he
     obtain ⟨m, hm, hle, hw⟩ := wid64 x (g2 x hx).1 n hn (g2 x hx).2
     exact ⟨m, hm, hle, by rw [← hq2, hw]⟩
   obtain ⟨m, hm, hle, hw⟩ := hwid
   rcases pack_eq [(q : Int)] (l.map decB) hgood hsmall K (by omega) with ⟨m', hm', hw', hp⟩ | hp
   ·have hmm : m' = m := by rw [hw] at hw'; omega
    subst hmm
    rw [hp, Option.bind_some, hnums]
    dsimp only
    have hfm : ∀ x ∈ l, Wd x ∧ fitN m' x := fun x hx => by
     obtain ⟨f1, f2, _⟩ := nums_fit (l.map decB) hsmall m' hm' hw' (decB x) (List.mem_map_of_mem hx)
     rw [int_decB x (g2 x hx).1.1 (g2 x hx).1.2] at f1 f2
     exact ⟨f1, f2⟩
    rcases to_eq [(q : Int)] l m' n hm' hn hsz (by simp) (by omega) hfm K (by omega) with ⟨_, hto⟩ | ⟨⟨x, hx, hnf⟩, _⟩
    ·rw [hto, Option.bind_some]
     dsimp only
     rw [if_pos rfl, if_pos rfl, if_pos (by omega), if_pos rfl, hsl, beq_self_eq_true]
    ·exact absurd (g2 x hx).2 hnf
   ·exfalso
    have hm8 : m ≤ 8 := by omega
    obtain ⟨b, hb, hbw⟩ := known_eq (8 * (m : Int)) K (by omega)
    have hq2 : typed_Pack.l0 K (8 * (m : Int)) [] (l.map decB) ((l.map decB).length : Int) 0 [(q : Int)] (l.map decB) = some (8 * (m : Int), [(q : Int)], strOfNums (layL m (numsL (l.map decB))), 0) := pack_l0 [(q : Int)] (l.map decB) m hm8 (by omega) (by simp) hsmall ((l.map decB).length + 1) 0 K [] (by omega) (by omega) (by omega) rfl
    unfold typed_Pack.f at hp
    rw [mayV_eq _ _ (by omega) K (by omega), hgood, Option.bind_some, if_pos rfl, width_eq _ _ (by omega) (fun e he => by have := hsmall e he; omega) K (by omega), Option.bind_some, hw, hb, hbw.2 (nb_known m hm), Option.bind_some, if_pos rfl, hq2] at hp
    simp at hp
end Go.Proofs.YthcijldahbalcaaDoor.Pure
end
section
namespace Go.Proofs.YthcijldahbalcaaDoor.typedBytes
open Go.ChangeShapes Go.WideShapes Go.ChangeAt Go.RowKit Go.Proofs.YthcijldahbalcaaDoorW.PrintWords Go.Proofs.YthcijldahbalcaaDoor.P
open Go.ChangeMaps (open_string shut_string)
set_option linter.unusedVariables false
theorem own : ownKnob Tryd.prog.godebug = none := by kernel_rfl
theorem laidOut : laidOutB Tryd.prog = true := by kernel_rfl
set_option maxRecDepth 100000 in
theorem lifted (os : Os) (started : os.Started) (H : Type) (enc : TypeId × Value → H) :
    ReturnsInHanded {} Tryd.checked os 10 .any (fun w args => (Rows.typedBytesSpec.pre enc Tryd.prog Tryd.f10 [] false w args ∧ laidMetH Tryd.prog Rows.typedBytesRow.laid w) ∧ sizedMet enc Tryd.prog Tryd.f10 (OpenSpec.ofChange Rows.typedBytesSpec) false w args) (Rows.typedBytesSpec.post enc Tryd.prog Tryd.f10 false true false false) := by
  refine returnsInHanded_of_change_and (C := Tryd.checked) (X := (fun w _ => laidMetH Tryd.prog Rows.typedBytesRow.laid w)) (fun _ _ _ hh h => h.of_heap hh) own started (by kernel_rfl) Tryd.func10
    (ChangeSpec.witness_shaped (enc := enc) (C := Tryd.checked) (os := os) (X := (fun w _ => laidMetH Tryd.prog Rows.typedBytesRow.laid w)) false (World.laidAll Tryd.prog os Rows.typedBytesRow.laid) #[.string ByteArray.empty, .int .u8 0] 8 (World.laidAll_os _ _ _)
      (World.shaped_of_ZipB (by kernel_rfl) (by kernel_rfl)) (by kernel_rfl) (by kernel_rfl) (by kernel_rfl)
      (by rw [MakeChecks.laidMetH_plain _ _ _ (by kernel_rfl)]; exact laidMet_laidAll _ (by kernel_rfl) (by kernel_rfl))) ?_
  intro W base args ds gs before hval0 hW hcnd hsz0 hL _
  have hG : Glob W := globW (by rw [MakeChecks.laidMetH_plain _ _ _ (by kernel_rfl)] at hL; exact hL)
  have hsz : (DataW.weightsEach Tryd.prog (Tryd.f10.params.toList ++ Rows.typedBytesSpec.plain.varTypes Tryd.prog) (ds ++ gs)).all (· ≤ reachBytes) = true := hsz0
  have hval : ∀ (j : Nat) t v, Tryd.f10.params[j]? = some t → args[j]? = some v → Value.okWide Tryd.prog W .any base t v := hval0
  have hW' := hW
  obtain ⟨p, q, hA0, hV, rfl, hfz, hnd⟩ := hW
  have hA : DataW.TrodAll enc Tryd.prog W 0 (fun _ => true) true Tryd.f10.params.toList args.toList ds p := hA0
  rw [Tryd.params10] at hA hval hsz
  obtain ⟨v0, vs0, d0, ds0, p0, q0, hargs, rfl, rfl, h0, r0⟩ := trodAll_cons hA
  obtain ⟨v1, vs1, d1, ds1, p1, q1, rfl, rfl, rfl, h1, r1⟩ := trodAll_cons r0
  obtain ⟨rfl, rfl, rfl⟩ := trodAll_nil r1
  obtain rfl : args = #[v0, v1] := by cases args; simp_all
  obtain ⟨rfl, rfl⟩ := trodVars_none hV
  obtain ⟨a0, rfl, rfl, rfl, y0⟩ := open_string Tryd.underlying9 (hval 0 9 v0 rfl rfl) h0
  have w0 : a0.size ≤ 140737488351232 := by
    have z := sized_string hsz (j := 0) (t := 9) rfl rfl
    rw [Array.length_toList] at z
    exact z
  obtain ⟨a1, rfl, rfl, rfl, w1⟩ := open_int Tryd.underlying5 (hval 1 5 v1 rfl rfl) h1
  clear hA0 hval0 hsz0 hsz
  obtain ⟨k_, hp_⟩ := Pure.TypedBytes a0 a1 w0 w1
  refine (reredoslaw05_TypedBytes.calls k_ a0 a1 true W  hG hp_).mono fun e W' hpost => ?_
  obtain ⟨he, bel0⟩ := hpost
  have bel : Below W.heap.size W W' := by first | exact bel0 | exact bel0.below
  subst he
  exact ⟨_, rfl, _, _, _, [], _, [], hW', trodAll_mk1 (shut_bool Tryd.underlying4 _), (trodAll_cons_mk (shut_string Tryd.underlying9 y0) (trodAll_cons_mk (shut_int Tryd.underlying5 w1) trodAll_mk0)), rfl, bel.frame _, fun h => by cases h⟩
theorem over : Rows.typedBytesRow.holds Tryd.pinned (OpenSpec.ofChange Rows.typedBytesSpec) :=
  OpenClaim.holds_of_wide 10 Tryd.f10 rfl rfl rfl rfl rfl rfl rfl ⟨rfl, rfl, rfl, rfl, rfl⟩ rfl rfl rfl rfl rfl (by kernel_rfl) Tryd.func10 (by kernel_rfl)
    (of_decide_eq_true (by kernel_rfl)) (by unfold Func.isWrapper; first | (rw [if_pos (by decide +kernel)]; kernel_rfl) | (rw [if_neg (by decide +kernel)]; exact ⟨rfl, rfl⟩))
    (fun os started H enc _ => lifted os started H enc)
theorem card : Rows.TypedBytesCardSaid :=
  Claim7.holds_tied_plain_at .later [] [.data, .data, .data, .sentinel, .sentinel] true (true, "777803f5cc2650144c63029cddcac2ae55c749573dd844dc304ba8bf68817a60") true over (fun _ h => by cases h) (by kernel_rfl) (fun _ h => by cases h) typedBytes_row_tie rfl ⟨rfl, rfl⟩ (by kernel_rfl) rfl
    (fun f fn hf hfn => by
      obtain rfl : f = 10 := Option.some.inj ((show Tryd.prog.funcNamed Rows.typedBytesRow.func = some 10 by kernel_rfl).symm.trans hf) |>.symm
      obtain rfl : fn = Tryd.f10 := (Option.some.inj (Tryd.func10.symm.trans hfn)).symm
      exact ⟨by kernel_rfl, fun j t ht => by
        have hm : t ∈ Tryd.f10.params.toList := by simpa using Array.mem_of_getElem? ht
        have hall : (Tryd.f10.params.toList.all fun u => !Tryd.prog.wantsStandIn u) = true := by kernel_rfl
        exact (show Tryd.prog.wantsStandIn t = false by simpa using List.all_eq_true.1 hall t hm)⟩)
    (by kernel_rfl)
#print axioms card
end Go.Proofs.YthcijldahbalcaaDoor.typedBytes
namespace Go.Proofs.YthcijldahbalcaaDoor
theorem typedBytes_holds : Rows.TypedBytesCardSaid := typedBytes.card
end Go.Proofs.YthcijldahbalcaaDoor
end
