/- Walks, written by a program out of the translation. -/
import Derived.Test.YtphonhplgholmaaPx0
import Derived.Test.YtphonhplgholmaaPx3
import Derived.Test.YtphonhplgholmaaPx13
import Derived.Test.YtphonhplgholmaaGBase
import Derived.Test.YtphonhplgholmaaGBudget
import Derived.Test.YtphonhplgholmaaGLex
namespace Go.Proofs.Ytphonhplgholmaa.P
open Go.RowKit Go.Proofs.YtphonhplgholmaaW.PrintWords Go.Proofs.YtphonhplgholmaaW.PrintLast Go.Proofs.YtphonhplgholmaaW.PrintMore
attribute [local go_sem] max2_int min2_int max_two min_two max_three min_three max_four min_four   -- for this text's walks alone
set_option linter.unusedVariables false
set_option linter.unusedSimpArgs false

attribute [local go_sem high] eqA59
/-! ### reredosref07_Toks: function 31 -/
def reredosref07_Toks.l0 : Nat → List (S59) → List (S59) → Int → Option (Bool)
 | 0, _, _, _ => none
 | k + 1, x0, x1, x5 => if x5 < (x0.length : Int) then (if 0 ≤ x5 then (if x5 < (x1.length : Int) then (if (!(((rd_T59 x0 x5).f0) == ((rd_T59 x1 x5).f0)) || (!((((rd_T59 x0 x5).f1).toList) == (((rd_T59 x1 x5).f1).toList)) || (!(((rd_T59 x0 x5).f2) == ((rd_T59 x1 x5).f2))))) = true then (some false) else (reredosref07_Toks.l0 k x0 x1 (wrap64 (x5 + 1)))) else (none)) else (none)) else (some true)
def reredosref07_Toks.f (k : Nat) (l0 : List (S59)) (l1 : List (S59)) : Option (Bool) := if (l0.length : Int) = (l1.length : Int) then (reredosref07_Toks.l0 k l0 l1 0) else (some false)
theorem reredosref07_Toks.mono_l : ∀ k, (∀ y0 y1 y2, LeO (reredosref07_Toks.l0 k y0 y1 y2) (reredosref07_Toks.l0 (k + 1) y0 y1 y2))
 | 0 => fun _ _ _ r h => by simp [reredosref07_Toks.l0] at h
 | k + 1 => by
  have ih0 := reredosref07_Toks.mono_l k
  ·intro y0 y1 y2
   unfold reredosref07_Toks.l0
   repeat' first
   | (with_reducible exact ih0 _ _ _)
   | (with_reducible exact LeO.refl _)
   | (with_reducible exact LeO.none _)
   | (with_reducible refine LeO.ite ?_ ?_)
   | (with_reducible refine LeO.bind ?_ (fun _ => ?_))
   | exact ih0 _ _ _
   | exact LeO.none _
   | refine LeO.ite ?_ ?_
   | refine LeO.bind ?_ (fun _ => ?_)
theorem reredosref07_Toks.mono : ∀ a0 a1 k, LeO (reredosref07_Toks.f k a0 a1) (reredosref07_Toks.f (k + 1) a0 a1) := by
 intro a0 a1 k
 have ih0 := reredosref07_Toks.mono_l k
 unfold reredosref07_Toks.f
 repeat' first
   | (with_reducible exact ih0 _ _ _)
   | (with_reducible exact LeO.refl _)
   | (with_reducible exact LeO.none _)
   | (with_reducible refine LeO.ite ?_ ?_)
   | (with_reducible refine LeO.bind ?_ (fun _ => ?_))
   | exact ih0 _ _ _
   | exact LeO.none _
   | refine LeO.ite ?_ ?_
   | refine LeO.bind ?_ (fun _ => ?_)
set_option maxHeartbeats 8000000 in
set_option maxRecDepth 100000 in
theorem reredosref07_Toks.calls (k : Nat) (A0 : Option Addr) (c0 : Nat) (l0 : List (S59)) (A1 : Option Addr) (c1 : Nat) (l1 : List (S59)) (r : Bool) (w : World) (hr0 : Kd.C k59 w A0 l0.length l0) (hc0 : l0.length ≤ c0) (hr1 : Kd.C k59 w A1 l1.length l1) (hc1 : l1.length ≤ c1) (h : reredosref07_Toks.f k l0 l1 = some r) :
  Calls Try.prog 31 #[.slice A0 l0.length c0, .slice A1 l1.length c1] w fun e w' => e = .returned (.bool r) ∧ Drawn0 w w' := by
 have hu59 := Try.underlying59
 have HR0 := am hr0
 have HC0 := am hc0
 clear hr0 hc0
 have HR1 := am hr1
 have HC1 := am hc1
 clear hr1 hc1
 have H : (if (l0.length : Int) = (l1.length : Int) then (reredosref07_Toks.l0 k l0 l1 0) else (some false)) = some r := h
 clear h
 by_cases c3 : (l0.length : Int) = (l1.length : Int)
 ·rw [if_pos c3] at H
  have c3b0 : ((l0.length : Int) == (l1.length : Int)) = true := beq_iff_eq.mpr c3
  have c3b1 : ((l0.length : Int) != (l1.length : Int)) = false := bne_eq_false_iff_eq.mpr c3
  have c3b2 : (l0.length == l1.length) = true := by first | simpa using c3 | (simp at c3 ⊢; omega)
  clear c3
  have H' := am H
  clear H
  go_enter Try.func31, Try.ntmps31
  go_wp2
  repeat (go_quiet (fail); try go_wp2)
  go_loopg [5] k (fun kq v5 w' => ∃ (x5_1 : Int), v5 = .int .i64 x5_1 ∧ Aside0 (reredosref07_Toks.l0 kq l0 l1 x5_1 = some r) ∧ Aside0 (kq ≤ k) ∧ Drawn0 w w')
  case atStart => exact ⟨(0), (by first | rfl | (simp; done) | (simp [*]; done)), H', ⟨Nat.le_refl _⟩, by repeat (first | exact Drawn0.refl _ | apply Drawn0.step)⟩
  case round =>
   clear H'
   try clear c1
   try clear p2
   try clear c3
   try clear c3b0
   try clear c3b1
   try clear c3b2
   obtain ⟨x5_1, rfl, HA, HK1, ⟨m1, rfl⟩⟩ := hrel
   cases gk with
   | zero => exact absurd HA.out (by simp [reredosref07_Toks.l0])
   | succ k1 =>
    have H := HA.out
    clear HA
    simp only [reredosref07_Toks.l0] at H
    by_cases c4 : x5_1 < (l0.length : Int)
    ·rw [if_pos c4] at H
     have c4b0 : decide (x5_1 < (l0.length : Int)) = true := decide_eq_true c4
     clear c4
     by_cases c5 : 0 ≤ x5_1
     ·rw [if_pos c5] at H
      have c5b0 : decide (0 ≤ x5_1) = true := decide_eq_true c5
      clear c5
      by_cases c6 : x5_1 < (l1.length : Int)
      ·rw [if_pos c6] at H
       have c6b0 : decide (x5_1 < (l1.length : Int)) = true := decide_eq_true c6
       clear c6
       by_cases c7 : (!(((rd_T59 l0 x5_1).f0) == ((rd_T59 l1 x5_1).f0)) || (!((((rd_T59 l0 x5_1).f1).toList) == (((rd_T59 l1 x5_1).f1).toList)) || (!(((rd_T59 l0 x5_1).f2) == ((rd_T59 l1 x5_1).f2))))) = true
       ·rw [if_pos c7] at H
        have c7b0 : (!(((rd_T59 l0 x5_1).f0) == ((rd_T59 l1 x5_1).f0)) || (!((((rd_T59 l0 x5_1).f1).toList) == (((rd_T59 l1 x5_1).f1).toList)) || (!(((rd_T59 l0 x5_1).f2) == ((rd_T59 l1 x5_1).f2))))) = true := c7
        clear c7
        obtain rfl := Option.some.inj H
        have p415 : 0 ≤ (x5_1 : Int) := of_decide_eq_true (by first | (with_reducible assumption) | assumption)
        have q415 : x5_1 < (l0.length : Int) := of_decide_eq_true (by first | (with_reducible assumption) | assumption)
        obtain ⟨ad415, e415, hx415_0, hx415_1, hx415_2⟩ := at_T59 HR0.out x5_1 p415 q415
        cases e415
        replace p415 := eq_true p415
        replace q415 := eq_true q415
        have p416 : 0 ≤ (x5_1 : Int) := of_decide_eq_true (by first | (with_reducible assumption) | assumption)
        have q416 : x5_1 < (l1.length : Int) := of_decide_eq_true (by first | (with_reducible assumption) | assumption)
        obtain ⟨ad416, e416, hx416_0, hx416_1, hx416_2⟩ := at_T59 HR1.out x5_1 p416 q416
        cases e416
        replace p416 := eq_true p416
        replace q416 := eq_true q416
        go_wp2
        repeat (go_quiet (fail); try go_wp2)
        go_ret
        exact ⟨by first | rfl | (simp; done) | (simp [*]; done), by repeat (first | exact Drawn0.refl _ | apply Drawn0.step)⟩
       ·rw [if_neg c7] at H
        have c7b0 : (!(((rd_T59 l0 x5_1).f0) == ((rd_T59 l1 x5_1).f0)) || (!((((rd_T59 l0 x5_1).f1).toList) == (((rd_T59 l1 x5_1).f1).toList)) || (!(((rd_T59 l0 x5_1).f2) == ((rd_T59 l1 x5_1).f2))))) = false := by simpa using c7
        clear c7
        have H' := am H
        clear H
        have p415 : 0 ≤ (x5_1 : Int) := of_decide_eq_true (by first | (with_reducible assumption) | assumption)
        have q415 : x5_1 < (l0.length : Int) := of_decide_eq_true (by first | (with_reducible assumption) | assumption)
        obtain ⟨ad415, e415, hx415_0, hx415_1, hx415_2⟩ := at_T59 HR0.out x5_1 p415 q415
        cases e415
        replace p415 := eq_true p415
        replace q415 := eq_true q415
        have p416 : 0 ≤ (x5_1 : Int) := of_decide_eq_true (by first | (with_reducible assumption) | assumption)
        have q416 : x5_1 < (l1.length : Int) := of_decide_eq_true (by first | (with_reducible assumption) | assumption)
        obtain ⟨ad416, e416, hx416_0, hx416_1, hx416_2⟩ := at_T59 HR1.out x5_1 p416 q416
        cases e416
        replace p416 := eq_true p416
        replace q416 := eq_true q416
        go_wp2
        repeat (go_quiet (fail); try go_wp2)
        go_roundg k1
        case measure => have := HK1.out; omega
        case rel => exact ⟨(wrap64 (x5_1 + 1)), (by first | rfl | (simp; done) | (simp [*]; done)), H', ⟨by have := HK1.out; omega⟩, by repeat (first | exact Drawn0.refl _ | apply Drawn0.step)⟩
      ·rw [if_neg c6] at H
       exact absurd H (by simp)
     ·rw [if_neg c5] at H
      exact absurd H (by simp)
    ·rw [if_neg c4] at H
     have c4b0 : decide (x5_1 < (l0.length : Int)) = false := decide_eq_false c4
     clear c4
     obtain rfl := Option.some.inj H
     go_wp2
     repeat (go_quiet (fail); try go_wp2)
     go_ret
     exact ⟨by first | rfl | (simp; done) | (simp [*]; done), by repeat (first | exact Drawn0.refl _ | apply Drawn0.step)⟩
 ·rw [if_neg c3] at H
  have c3b0 : ((l0.length : Int) == (l1.length : Int)) = false := beq_eq_false_iff_ne.mpr c3
  have c3b1 : ((l0.length : Int) != (l1.length : Int)) = true := bne_iff_ne.mpr c3
  have c3b2 : (l0.length == l1.length) = false := by first | simpa using c3 | (simp at c3 ⊢; omega)
  obtain rfl := Option.some.inj H
  go_enter Try.func31, Try.ntmps31
  go_wp2
  repeat (go_quiet (fail); try go_wp2)
  go_ret
  exact ⟨by first | rfl | (simp; done) | (simp [*]; done), by repeat (first | exact Drawn0.refl _ | apply Drawn0.step)⟩

/-! ### reredoslaw07_LexBlanks: function 9 -/
mutual
def reredoslaw07_LexBlanks.j0 : Nat → ByteArray → Bool → List (S59) → List (S59) → List (S59) → Bool → Option (Bool)
 | 0, _, _, _, _, _, _ => none
 | k + 1, x0, x5, x6, x9, x12, x80 => if x80 = true then (none) else (reredoslaw07_LexBlanks.l0 k x0 x5 x6 x9 x12 0)
def reredoslaw07_LexBlanks.l0 : Nat → ByteArray → Bool → List (S59) → List (S59) → List (S59) → Int → Option (Bool)
 | 0, _, _, _, _, _, _ => none
 | k + 1, x0, x5, x6, x9, x12, x15 => if x15 < (x9.length : Int) then (if 0 ≤ (wrap64 ((x6.length : Int) + x15)) then (if (wrap64 ((x6.length : Int) + x15)) < (x12.length : Int) then (if 0 ≤ x15 then (if ((rd_T59 x12 (wrap64 ((x6.length : Int) + x15))).f0) = ((rd_T59 x9 x15).f0) then (if ((rd_T59 x12 (wrap64 ((x6.length : Int) + x15))).f1).toList = ((rd_T59 x9 x15).f1).toList then (if ((rd_T59 x12 (wrap64 ((x6.length : Int) + x15))).f2) = (wrap64 ((wrap64 (((rd_T59 x9 x15).f2) + (x0.size : Int))) + 1)) then (reredoslaw07_LexBlanks.l0 k x0 x5 x6 x9 x12 (wrap64 (x15 + 1))) else (none)) else (none)) else (none)) else (none)) else (none)) else (none)) else (if x5 = true then (if 0 ≤ (x6.length : Int) then (if (x6.length : Int) ≤ (x12.length : Int) then ((reredosref07_Toks.f k (x12.take ((x6.length : Int) : Int).toNat) x6).bind fun t442 => (some t442)) else (none)) else (none)) else (none))
end
def reredoslaw07_LexBlanks.f (k : Nat) (a0 : ByteArray) (a1 : ByteArray) : Option (Bool) := (reredoslaw07_shown.f k).bind fun t417 => (if (wrap64 ((a0.size : Int) + (a1.size : Int))) > 255 then (some t417) else ((lex_Lex.f k a0).bind fun bt418 => ((lex_Lex.f k a1).bind fun bt423 => (if a0.size + 1 ≤ 9223372036854775807 then (if (a0 ++ (⟨#[32]⟩ : ByteArray)).size + a1.size ≤ 9223372036854775807 then ((lex_Lex.f k ((a0 ++ (⟨#[32]⟩ : ByteArray)) ++ a1)).bind fun bt428 => (if bt418.2.2 = 0 then (if bt423.2.2 = 0 then (if bt428.2.2 = 0 then (reredoslaw07_LexBlanks.j0 k a0 t417 bt418.1 bt423.1 bt428.1 ((bt428.1.length : Int) != (wrap64 ((bt418.1.length : Int) + (bt423.1.length : Int))))) else (reredoslaw07_LexBlanks.j0 k a0 t417 bt418.1 bt423.1 bt428.1 true)) else (if t417 = true then (if bt428.2.2 = 2 then (some (bt428.2.1 == (wrap64 ((wrap64 (bt423.2.1 + (a0.size : Int))) + 1)))) else (none)) else (none))) else (if t417 = true then (some (bt428.2.2 == 2)) else (none)))) else (none)) else (none)))))
theorem reredoslaw07_LexBlanks.mono_l : ∀ k, (∀ y0 y1 y2 y3 y4 y5, LeO (reredoslaw07_LexBlanks.j0 k y0 y1 y2 y3 y4 y5) (reredoslaw07_LexBlanks.j0 (k + 1) y0 y1 y2 y3 y4 y5)) ∧ (∀ y0 y1 y2 y3 y4 y5, LeO (reredoslaw07_LexBlanks.l0 k y0 y1 y2 y3 y4 y5) (reredoslaw07_LexBlanks.l0 (k + 1) y0 y1 y2 y3 y4 y5))
 | 0 => ⟨fun _ _ _ _ _ _ r h => by simp [reredoslaw07_LexBlanks.j0] at h, fun _ _ _ _ _ _ r h => by simp [reredoslaw07_LexBlanks.l0] at h⟩
 | k + 1 => by
  obtain ⟨ih0, ih1⟩ := reredoslaw07_LexBlanks.mono_l k
  refine ⟨?_, ?_⟩
  ·intro y0 y1 y2 y3 y4 y5
   unfold reredoslaw07_LexBlanks.j0
   repeat' first
   | (with_reducible exact ih0 _ _ _ _ _ _)
   | (with_reducible exact ih1 _ _ _ _ _ _)
   | (with_reducible exact lex_Lex.mono _ _)
   | (with_reducible exact reredoslaw07_shown.mono _)
   | (with_reducible exact reredosref07_Toks.mono _ _ _)
   | (with_reducible exact LeO.refl _)
   | (with_reducible exact LeO.none _)
   | (with_reducible refine LeO.ite ?_ ?_)
   | (with_reducible refine LeO.bind ?_ (fun _ => ?_))
   | exact ih0 _ _ _ _ _ _
   | exact ih1 _ _ _ _ _ _
   | exact lex_Lex.mono _ _
   | exact reredoslaw07_shown.mono _
   | exact reredosref07_Toks.mono _ _ _
   | exact LeO.none _
   | refine LeO.ite ?_ ?_
   | refine LeO.bind ?_ (fun _ => ?_)
  ·intro y0 y1 y2 y3 y4 y5
   unfold reredoslaw07_LexBlanks.l0
   repeat' first
   | (with_reducible exact ih0 _ _ _ _ _ _)
   | (with_reducible exact ih1 _ _ _ _ _ _)
   | (with_reducible exact lex_Lex.mono _ _)
   | (with_reducible exact reredoslaw07_shown.mono _)
   | (with_reducible exact reredosref07_Toks.mono _ _ _)
   | (with_reducible exact LeO.refl _)
   | (with_reducible exact LeO.none _)
   | (with_reducible refine LeO.ite ?_ ?_)
   | (with_reducible refine LeO.bind ?_ (fun _ => ?_))
   | exact ih0 _ _ _ _ _ _
   | exact ih1 _ _ _ _ _ _
   | exact lex_Lex.mono _ _
   | exact reredoslaw07_shown.mono _
   | exact reredosref07_Toks.mono _ _ _
   | exact LeO.none _
   | refine LeO.ite ?_ ?_
   | refine LeO.bind ?_ (fun _ => ?_)
theorem reredoslaw07_LexBlanks.mono : ∀ a0 a1 k, LeO (reredoslaw07_LexBlanks.f k a0 a1) (reredoslaw07_LexBlanks.f (k + 1) a0 a1) := by
 intro a0 a1 k
 obtain ⟨ih0, ih1⟩ := reredoslaw07_LexBlanks.mono_l k
 unfold reredoslaw07_LexBlanks.f
 repeat' first
   | (with_reducible exact ih0 _ _ _ _ _ _)
   | (with_reducible exact ih1 _ _ _ _ _ _)
   | (with_reducible exact lex_Lex.mono _ _)
   | (with_reducible exact reredoslaw07_shown.mono _)
   | (with_reducible exact reredosref07_Toks.mono _ _ _)
   | (with_reducible exact LeO.refl _)
   | (with_reducible exact LeO.none _)
   | (with_reducible refine LeO.ite ?_ ?_)
   | (with_reducible refine LeO.bind ?_ (fun _ => ?_))
   | exact ih0 _ _ _ _ _ _
   | exact ih1 _ _ _ _ _ _
   | exact lex_Lex.mono _ _
   | exact reredoslaw07_shown.mono _
   | exact reredosref07_Toks.mono _ _ _
   | exact LeO.none _
   | refine LeO.ite ?_ ?_
   | refine LeO.bind ?_ (fun _ => ?_)
set_option maxHeartbeats 8000000 in
set_option maxRecDepth 100000 in
theorem reredoslaw07_LexBlanks.calls (k : Nat) (a0 : ByteArray) (a1 : ByteArray) (r : Bool) (w : World) (h : reredoslaw07_LexBlanks.f k a0 a1 = some r) :
  Calls Try.prog 9 #[.string a0, .string a1] w fun e w' => e = .returned (.bool r) ∧ Below w.heap.size w w' := by
 have hu59 := Try.underlying59
 have HB := am (Below.refl w.heap.size w)
 have H : ((reredoslaw07_shown.f k).bind fun t417 => (if (wrap64 ((a0.size : Int) + (a1.size : Int))) > 255 then (some t417) else ((lex_Lex.f k a0).bind fun bt418 => ((lex_Lex.f k a1).bind fun bt423 => (if a0.size + 1 ≤ 9223372036854775807 then (if (a0 ++ (⟨#[32]⟩ : ByteArray)).size + a1.size ≤ 9223372036854775807 then ((lex_Lex.f k ((a0 ++ (⟨#[32]⟩ : ByteArray)) ++ a1)).bind fun bt428 => (if bt418.2.2 = 0 then (if bt423.2.2 = 0 then (if bt428.2.2 = 0 then (reredoslaw07_LexBlanks.j0 k a0 t417 bt418.1 bt423.1 bt428.1 ((bt428.1.length : Int) != (wrap64 ((bt418.1.length : Int) + (bt423.1.length : Int))))) else (reredoslaw07_LexBlanks.j0 k a0 t417 bt418.1 bt423.1 bt428.1 true)) else (if t417 = true then (if bt428.2.2 = 2 then (some (bt428.2.1 == (wrap64 ((wrap64 (bt423.2.1 + (a0.size : Int))) + 1)))) else (none)) else (none))) else (if t417 = true then (some (bt428.2.2 == 2)) else (none)))) else (none)) else (none)))))) = some r := h
 clear h
 replace H := Option.bind_eq_some_iff.mp H
 obtain ⟨t417, A30, H⟩ := H
 replace H : (if (wrap64 ((a0.size : Int) + (a1.size : Int))) > 255 then (some t417) else ((lex_Lex.f k a0).bind fun bt418 => ((lex_Lex.f k a1).bind fun bt423 => (if a0.size + 1 ≤ 9223372036854775807 then (if (a0 ++ (⟨#[32]⟩ : ByteArray)).size + a1.size ≤ 9223372036854775807 then ((lex_Lex.f k ((a0 ++ (⟨#[32]⟩ : ByteArray)) ++ a1)).bind fun bt428 => (if bt418.2.2 = 0 then (if bt423.2.2 = 0 then (if bt428.2.2 = 0 then (reredoslaw07_LexBlanks.j0 k a0 t417 bt418.1 bt423.1 bt428.1 ((bt428.1.length : Int) != (wrap64 ((bt418.1.length : Int) + (bt423.1.length : Int))))) else (reredoslaw07_LexBlanks.j0 k a0 t417 bt418.1 bt423.1 bt428.1 true)) else (if t417 = true then (if bt428.2.2 = 2 then (some (bt428.2.1 == (wrap64 ((wrap64 (bt423.2.1 + (a0.size : Int))) + 1)))) else (none)) else (none))) else (if t417 = true then (some (bt428.2.2 == 2)) else (none)))) else (none)) else (none))))) = some r := H
 have A3 := am A30
 clear A30
 by_cases c4 : (wrap64 ((a0.size : Int) + (a1.size : Int))) > 255
 ·rw [if_pos c4] at H
  have c4b0 : decide (255 < (wrap64 ((a0.size : Int) + (a1.size : Int)))) = true := decide_eq_true c4
  clear c4
  obtain rfl := Option.some.inj H
  go_enter Try.func9, Try.ntmps9
  go_wp2_with (first | (go_at_call 29; (with_reducible refine (reredoslaw07_shown.calls k  t417 _ A3.out).mono ?_); rintro e w5 ⟨rfl, hb⟩; have n0_ := am (below_step (by repeat (first | (with_reducible first | exact HB.out | apply lA | apply lN | apply lD) | exact HB.out)) hb); clear HB; have HB := n0_; clear n0_; (try clear hb); (try clear hb2); (try clear hk); (try clear hi)))
  repeat (go_quiet (first | (go_at_call 29; (with_reducible refine (reredoslaw07_shown.calls k  t417 _ A3.out).mono ?_); rintro e w5 ⟨rfl, hb⟩; have n0_ := am (below_step (by repeat (first | (with_reducible first | exact HB.out | apply lA | apply lN | apply lD) | exact HB.out)) hb); clear HB; have HB := n0_; clear n0_; (try clear hb); (try clear hb2); (try clear hk); (try clear hi))); try go_wp2_with (first | (go_at_call 29; (with_reducible refine (reredoslaw07_shown.calls k  t417 _ A3.out).mono ?_); rintro e w5 ⟨rfl, hb⟩; have n0_ := am (below_step (by repeat (first | (with_reducible first | exact HB.out | apply lA | apply lN | apply lD) | exact HB.out)) hb); clear HB; have HB := n0_; clear n0_; (try clear hb); (try clear hb2); (try clear hk); (try clear hi))))
  go_ret
  exact ⟨by first | rfl | (simp [errW_none, errW_some] <;> rfl) | (simp [*, errW_none, errW_some] <;> rfl), by repeat (first | (with_reducible first | exact HB.out | apply lA | apply lN | apply lD) | exact HB.out)⟩
 ·rw [if_neg c4] at H
  have c4b0 : decide (255 < (wrap64 ((a0.size : Int) + (a1.size : Int)))) = false := decide_eq_false c4
  clear c4
  replace H := Option.bind_eq_some_iff.mp H
  obtain ⟨⟨t418, t419, t420⟩, A60, H⟩ := H
  replace H : ((lex_Lex.f k a1).bind fun bt423 => (if a0.size + 1 ≤ 9223372036854775807 then (if (a0 ++ (⟨#[32]⟩ : ByteArray)).size + a1.size ≤ 9223372036854775807 then ((lex_Lex.f k ((a0 ++ (⟨#[32]⟩ : ByteArray)) ++ a1)).bind fun bt428 => (if t420 = 0 then (if bt423.2.2 = 0 then (if bt428.2.2 = 0 then (reredoslaw07_LexBlanks.j0 k a0 t417 t418 bt423.1 bt428.1 ((bt428.1.length : Int) != (wrap64 ((t418.length : Int) + (bt423.1.length : Int))))) else (reredoslaw07_LexBlanks.j0 k a0 t417 t418 bt423.1 bt428.1 true)) else (if t417 = true then (if bt428.2.2 = 2 then (some (bt428.2.1 == (wrap64 ((wrap64 (bt423.2.1 + (a0.size : Int))) + 1)))) else (none)) else (none))) else (if t417 = true then (some (bt428.2.2 == 2)) else (none)))) else (none)) else (none))) = some r := H
  have A6 := am A60
  clear A60
  replace H := Option.bind_eq_some_iff.mp H
  obtain ⟨⟨t423, t424, t425⟩, A70, H⟩ := H
  replace H : (if a0.size + 1 ≤ 9223372036854775807 then (if (a0 ++ (⟨#[32]⟩ : ByteArray)).size + a1.size ≤ 9223372036854775807 then ((lex_Lex.f k ((a0 ++ (⟨#[32]⟩ : ByteArray)) ++ a1)).bind fun bt428 => (if t420 = 0 then (if t425 = 0 then (if bt428.2.2 = 0 then (reredoslaw07_LexBlanks.j0 k a0 t417 t418 t423 bt428.1 ((bt428.1.length : Int) != (wrap64 ((t418.length : Int) + (t423.length : Int))))) else (reredoslaw07_LexBlanks.j0 k a0 t417 t418 t423 bt428.1 true)) else (if t417 = true then (if bt428.2.2 = 2 then (some (bt428.2.1 == (wrap64 ((wrap64 (t424 + (a0.size : Int))) + 1)))) else (none)) else (none))) else (if t417 = true then (some (bt428.2.2 == 2)) else (none)))) else (none)) else (none)) = some r := H
  have A7 := am A70
  clear A70
  by_cases c8 : a0.size + 1 ≤ 9223372036854775807
  ·rw [if_pos c8] at H
   have c8b0 := eq_true c8
   have c8b1 : decide (a0.size + 1 ≤ 9223372036854775807) = true := decide_eq_true c8
   try have c8b2 : (9223372036854775807 < a0.size + 1) = False := eq_false (Nat.not_lt.2 c8)
   by_cases c9 : (a0 ++ (⟨#[32]⟩ : ByteArray)).size + a1.size ≤ 9223372036854775807
   ·rw [if_pos c9] at H
    have c9b0 := eq_true c9
    have c9b1 : decide ((a0 ++ (⟨#[32]⟩ : ByteArray)).size + a1.size ≤ 9223372036854775807) = true := decide_eq_true c9
    try have c9b2 : (9223372036854775807 < (a0 ++ (⟨#[32]⟩ : ByteArray)).size + a1.size) = False := eq_false (Nat.not_lt.2 c9)
    replace H := Option.bind_eq_some_iff.mp H
    obtain ⟨⟨t428, t429, t430⟩, A100, H⟩ := H
    replace H : (if t420 = 0 then (if t425 = 0 then (if t430 = 0 then (reredoslaw07_LexBlanks.j0 k a0 t417 t418 t423 t428 ((t428.length : Int) != (wrap64 ((t418.length : Int) + (t423.length : Int))))) else (reredoslaw07_LexBlanks.j0 k a0 t417 t418 t423 t428 true)) else (if t417 = true then (if t430 = 2 then (some (t429 == (wrap64 ((wrap64 (t424 + (a0.size : Int))) + 1)))) else (none)) else (none))) else (if t417 = true then (some (t430 == 2)) else (none))) = some r := H
    have A10 := am A100
    clear A100
    by_cases c11 : t420 = 0
    ·rw [if_pos c11] at H
     have c11b0 : (t420 == 0) = true := beq_iff_eq.mpr c11
     have c11b1 : (t420 != 0) = false := bne_eq_false_iff_eq.mpr c11
     clear c11
     by_cases c12 : t425 = 0
     ·rw [if_pos c12] at H
      have c12b0 : (t425 == 0) = true := beq_iff_eq.mpr c12
      have c12b1 : (t425 != 0) = false := bne_eq_false_iff_eq.mpr c12
      clear c12
      have HC13 := am H
      clear H
      go_enter Try.func9, Try.ntmps9
      go_upto_region 11 with (first | (go_at_call 29; (with_reducible refine (reredoslaw07_shown.calls k  t417 _ A3.out).mono ?_); rintro e w14 ⟨rfl, hb⟩; have n0_ := am (below_step (by repeat (first | (with_reducible first | exact HB.out | apply lA | apply lN | apply lD) | exact HB.out)) hb); clear HB; have HB := n0_; clear n0_; (try clear hb); (try clear hb2); (try clear hk); (try clear hi)) | (go_at_call 30; (with_reducible refine (lex_Lex.calls k a0 t418 t419 t420 _ A6.out).mono ?_); rintro e w15 ⟨v421, rfl, ho0, hb⟩; have n0_ := am (Kd.R_lower ho0 (below_size (by repeat (first | (with_reducible first | exact HB.out | apply lA | apply lN | apply lD) | exact HB.out)))); have n1_ := am (below_step (by repeat (first | (with_reducible first | exact HB.out | apply lA | apply lN | apply lD) | exact HB.out)) hb); clear HB; have HO422 := n0_; have HB := n1_; clear n0_ n1_; (try clear hb); (try clear hb2); (try clear hk); (try clear hi); (try clear ho0)) | (go_at_call 30; (with_reducible refine (lex_Lex.calls k a1 t423 t424 t425 _ A7.out).mono ?_); rintro e w16 ⟨v426, rfl, ho0, hb⟩; have n0_ := am (Kd.R_elder' (by (with_reducible repeat (first | apply Kd.R_alloc | apply Kd.R_drewN | apply Kd.R_drew)); exact HO422.out) (Kd.R_base ho0) hb); have n1_ := am (Kd.R_lower (Kd.R_new' ho0 (Kd.R_lt (by (with_reducible repeat (first | apply Kd.R_alloc | apply Kd.R_drewN | apply Kd.R_drew)); exact HO422.out))) (below_size (by repeat (first | (with_reducible first | exact HB.out | apply lA | apply lN | apply lD) | exact HB.out)))); have n2_ := am (below_step (by repeat (first | (with_reducible first | exact HB.out | apply lA | apply lN | apply lD) | exact HB.out)) hb); clear HO422; clear HB; have HO422 := n0_; have HO427 := n1_; have HB := n2_; clear n0_ n1_ n2_; (try clear hb); (try clear hb2); (try clear hk); (try clear hi); (try clear ho0)) | (go_at_call 30; (with_reducible refine (lex_Lex.calls k ((a0 ++ (⟨#[32]⟩ : ByteArray)) ++ a1) t428 t429 t430 _ A10.out).mono ?_); rintro e w17 ⟨v431, rfl, ho0, hb⟩; have n0_ := am (Kd.R_elder' (by (with_reducible repeat (first | apply Kd.R_alloc | apply Kd.R_drewN | apply Kd.R_drew)); exact HO422.out) (Kd.R_base ho0) hb); have n1_ := am (Kd.R_elder' (by (with_reducible repeat (first | apply Kd.R_alloc | apply Kd.R_drewN | apply Kd.R_drew)); exact HO427.out) (Kd.R_base ho0) hb); have n2_ := am (Kd.R_lower (Kd.R_new' (Kd.R_new' ho0 (Kd.R_lt (by (with_reducible repeat (first | apply Kd.R_alloc | apply Kd.R_drewN | apply Kd.R_drew)); exact HO422.out))) (Kd.R_lt (by (with_reducible repeat (first | apply Kd.R_alloc | apply Kd.R_drewN | apply Kd.R_drew)); exact HO427.out))) (below_size (by repeat (first | (with_reducible first | exact HB.out | apply lA | apply lN | apply lD) | exact HB.out)))); have n3_ := am (below_step (by repeat (first | (with_reducible first | exact HB.out | apply lA | apply lN | apply lD) | exact HB.out)) hb); clear HO422; clear HO427; clear HB; have HO422 := n0_; have HO427 := n1_; have HO432 := n2_; have HB := n3_; clear n0_ n1_ n2_ n3_; (try clear hb); (try clear hb2); (try clear hk); (try clear hi); (try clear ho0)))
      repeat (go_quiet (first | (go_at_call 29; (with_reducible refine (reredoslaw07_shown.calls k  t417 _ A3.out).mono ?_); rintro e w14 ⟨rfl, hb⟩; have n0_ := am (below_step (by repeat (first | (with_reducible first | exact HB.out | apply lA | apply lN | apply lD) | exact HB.out)) hb); clear HB; have HB := n0_; clear n0_; (try clear hb); (try clear hb2); (try clear hk); (try clear hi)) | (go_at_call 30; (with_reducible refine (lex_Lex.calls k a0 t418 t419 t420 _ A6.out).mono ?_); rintro e w15 ⟨v421, rfl, ho0, hb⟩; have n0_ := am (Kd.R_lower ho0 (below_size (by repeat (first | (with_reducible first | exact HB.out | apply lA | apply lN | apply lD) | exact HB.out)))); have n1_ := am (below_step (by repeat (first | (with_reducible first | exact HB.out | apply lA | apply lN | apply lD) | exact HB.out)) hb); clear HB; have HO422 := n0_; have HB := n1_; clear n0_ n1_; (try clear hb); (try clear hb2); (try clear hk); (try clear hi); (try clear ho0)) | (go_at_call 30; (with_reducible refine (lex_Lex.calls k a1 t423 t424 t425 _ A7.out).mono ?_); rintro e w16 ⟨v426, rfl, ho0, hb⟩; have n0_ := am (Kd.R_elder' (by (with_reducible repeat (first | apply Kd.R_alloc | apply Kd.R_drewN | apply Kd.R_drew)); exact HO422.out) (Kd.R_base ho0) hb); have n1_ := am (Kd.R_lower (Kd.R_new' ho0 (Kd.R_lt (by (with_reducible repeat (first | apply Kd.R_alloc | apply Kd.R_drewN | apply Kd.R_drew)); exact HO422.out))) (below_size (by repeat (first | (with_reducible first | exact HB.out | apply lA | apply lN | apply lD) | exact HB.out)))); have n2_ := am (below_step (by repeat (first | (with_reducible first | exact HB.out | apply lA | apply lN | apply lD) | exact HB.out)) hb); clear HO422; clear HB; have HO422 := n0_; have HO427 := n1_; have HB := n2_; clear n0_ n1_ n2_; (try clear hb); (try clear hb2); (try clear hk); (try clear hi); (try clear ho0)) | (go_at_call 30; (with_reducible refine (lex_Lex.calls k ((a0 ++ (⟨#[32]⟩ : ByteArray)) ++ a1) t428 t429 t430 _ A10.out).mono ?_); rintro e w17 ⟨v431, rfl, ho0, hb⟩; have n0_ := am (Kd.R_elder' (by (with_reducible repeat (first | apply Kd.R_alloc | apply Kd.R_drewN | apply Kd.R_drew)); exact HO422.out) (Kd.R_base ho0) hb); have n1_ := am (Kd.R_elder' (by (with_reducible repeat (first | apply Kd.R_alloc | apply Kd.R_drewN | apply Kd.R_drew)); exact HO427.out) (Kd.R_base ho0) hb); have n2_ := am (Kd.R_lower (Kd.R_new' (Kd.R_new' ho0 (Kd.R_lt (by (with_reducible repeat (first | apply Kd.R_alloc | apply Kd.R_drewN | apply Kd.R_drew)); exact HO422.out))) (Kd.R_lt (by (with_reducible repeat (first | apply Kd.R_alloc | apply Kd.R_drewN | apply Kd.R_drew)); exact HO427.out))) (below_size (by repeat (first | (with_reducible first | exact HB.out | apply lA | apply lN | apply lD) | exact HB.out)))); have n3_ := am (below_step (by repeat (first | (with_reducible first | exact HB.out | apply lA | apply lN | apply lD) | exact HB.out)) hb); clear HO422; clear HO427; clear HB; have HO422 := n0_; have HO427 := n1_; have HO432 := n2_; have HB := n3_; clear n0_ n1_ n2_ n3_; (try clear hb); (try clear hb2); (try clear hk); (try clear hi); (try clear ho0))); go_upto_region 11 with (first | (go_at_call 29; (with_reducible refine (reredoslaw07_shown.calls k  t417 _ A3.out).mono ?_); rintro e w14 ⟨rfl, hb⟩; have n0_ := am (below_step (by repeat (first | (with_reducible first | exact HB.out | apply lA | apply lN | apply lD) | exact HB.out)) hb); clear HB; have HB := n0_; clear n0_; (try clear hb); (try clear hb2); (try clear hk); (try clear hi)) | (go_at_call 30; (with_reducible refine (lex_Lex.calls k a0 t418 t419 t420 _ A6.out).mono ?_); rintro e w15 ⟨v421, rfl, ho0, hb⟩; have n0_ := am (Kd.R_lower ho0 (below_size (by repeat (first | (with_reducible first | exact HB.out | apply lA | apply lN | apply lD) | exact HB.out)))); have n1_ := am (below_step (by repeat (first | (with_reducible first | exact HB.out | apply lA | apply lN | apply lD) | exact HB.out)) hb); clear HB; have HO422 := n0_; have HB := n1_; clear n0_ n1_; (try clear hb); (try clear hb2); (try clear hk); (try clear hi); (try clear ho0)) | (go_at_call 30; (with_reducible refine (lex_Lex.calls k a1 t423 t424 t425 _ A7.out).mono ?_); rintro e w16 ⟨v426, rfl, ho0, hb⟩; have n0_ := am (Kd.R_elder' (by (with_reducible repeat (first | apply Kd.R_alloc | apply Kd.R_drewN | apply Kd.R_drew)); exact HO422.out) (Kd.R_base ho0) hb); have n1_ := am (Kd.R_lower (Kd.R_new' ho0 (Kd.R_lt (by (with_reducible repeat (first | apply Kd.R_alloc | apply Kd.R_drewN | apply Kd.R_drew)); exact HO422.out))) (below_size (by repeat (first | (with_reducible first | exact HB.out | apply lA | apply lN | apply lD) | exact HB.out)))); have n2_ := am (below_step (by repeat (first | (with_reducible first | exact HB.out | apply lA | apply lN | apply lD) | exact HB.out)) hb); clear HO422; clear HB; have HO422 := n0_; have HO427 := n1_; have HB := n2_; clear n0_ n1_ n2_; (try clear hb); (try clear hb2); (try clear hk); (try clear hi); (try clear ho0)) | (go_at_call 30; (with_reducible refine (lex_Lex.calls k ((a0 ++ (⟨#[32]⟩ : ByteArray)) ++ a1) t428 t429 t430 _ A10.out).mono ?_); rintro e w17 ⟨v431, rfl, ho0, hb⟩; have n0_ := am (Kd.R_elder' (by (with_reducible repeat (first | apply Kd.R_alloc | apply Kd.R_drewN | apply Kd.R_drew)); exact HO422.out) (Kd.R_base ho0) hb); have n1_ := am (Kd.R_elder' (by (with_reducible repeat (first | apply Kd.R_alloc | apply Kd.R_drewN | apply Kd.R_drew)); exact HO427.out) (Kd.R_base ho0) hb); have n2_ := am (Kd.R_lower (Kd.R_new' (Kd.R_new' ho0 (Kd.R_lt (by (with_reducible repeat (first | apply Kd.R_alloc | apply Kd.R_drewN | apply Kd.R_drew)); exact HO422.out))) (Kd.R_lt (by (with_reducible repeat (first | apply Kd.R_alloc | apply Kd.R_drewN | apply Kd.R_drew)); exact HO427.out))) (below_size (by repeat (first | (with_reducible first | exact HB.out | apply lA | apply lN | apply lD) | exact HB.out)))); have n3_ := am (below_step (by repeat (first | (with_reducible first | exact HB.out | apply lA | apply lN | apply lD) | exact HB.out)) hb); clear HO422; clear HO427; clear HB; have HO422 := n0_; have HO427 := n1_; have HO432 := n2_; have HB := n3_; clear n0_ n1_ n2_ n3_; (try clear hb); (try clear hb2); (try clear hk); (try clear hi); (try clear ho0))))
      (try simp only [Act.put, zT, z0, zS])
      go_cut [80] (fun v80 wc => ∃ (kq : Nat) (x80_12 : Bool), v80 = .bool x80_12 ∧ Aside0 (reredoslaw07_LexBlanks.j0 kq a0 t417 t418 t423 t428 x80_12 = some r) ∧ Aside0 (kq ≤ k) ∧ Aside0 (Kd.R k59 59 wc w.heap.size (fun k_ => some k_ ≠ (v426 : Value).ownBlock ∧ some k_ ≠ (v431 : Value).ownBlock) v421 t418) ∧ Aside0 (Kd.R k59 59 wc w.heap.size (fun k_ => some k_ ≠ (v421 : Value).ownBlock ∧ some k_ ≠ (v431 : Value).ownBlock) v426 t423) ∧ Aside0 (Kd.R k59 59 wc w.heap.size (fun k_ => some k_ ≠ (v421 : Value).ownBlock ∧ some k_ ≠ (v426 : Value).ownBlock) v431 t428) ∧ Aside0 (Below w.heap.size w wc))
      case first =>
       have H := HC13.out
       clear HC13
       by_cases c18 : t430 = 0
       ·rw [if_pos c18] at H
        have c18b0 : (t430 == 0) = true := beq_iff_eq.mpr c18
        have c18b1 : (t430 != 0) = false := bne_eq_false_iff_eq.mpr c18
        clear c18
        (first | rw [c18b0] | (simp only [i64_w, i32_w]; rw [c18b0]) | skip)
        have H' := am H
        clear H
        obtain ⟨Ao19, co19, eo19⟩ := Kd.R_slice HO432.out
        subst eo19
        obtain ⟨Ao20, co20, eo20⟩ := Kd.R_slice HO422.out
        subst eo20
        obtain ⟨Ao21, co21, eo21⟩ := Kd.R_slice HO427.out
        subst eo21
        go_wp2
        repeat (go_quiet (fail); try go_wp2)
        go_meet
        case rel => exact ⟨_, (((t428.length : Int) != (wrap64 ((t418.length : Int) + (t423.length : Int))))), (by first | rfl | (simp; done) | (simp [*]; done)), H', ⟨by first | omega | exact Nat.le_refl _⟩, ⟨by (with_reducible repeat (first | apply Kd.R_alloc | apply Kd.R_drewN | apply Kd.R_drew)); exact Kd.R_mono HO422.out (fun _ hk => ⟨hk.1.2, hk.2⟩)⟩, ⟨by (with_reducible repeat (first | apply Kd.R_alloc | apply Kd.R_drewN | apply Kd.R_drew)); exact Kd.R_mono HO427.out (fun _ hk => ⟨hk.1.2, hk.2⟩)⟩, ⟨by (with_reducible repeat (first | apply Kd.R_alloc | apply Kd.R_drewN | apply Kd.R_drew)); exact Kd.R_mono HO432.out (fun _ hk => ⟨hk.1.2, hk.2⟩)⟩, ⟨by repeat (first | (with_reducible first | exact HB.out | apply lA | apply lN | apply lD) | exact HB.out)⟩⟩
       ·rw [if_neg c18] at H
        have c18b0 : (t430 == 0) = false := beq_eq_false_iff_ne.mpr c18
        have c18b1 : (t430 != 0) = true := bne_iff_ne.mpr c18
        (first | rw [c18b0] | (simp only [i64_w, i32_w]; rw [c18b0]) | skip)
        have H' := am H
        clear H
        go_wp2
        repeat (go_quiet (fail); try go_wp2)
        go_meet
        case rel => exact ⟨_, (true), (by first | rfl | (simp; done) | (simp [*]; done)), H', ⟨by first | omega | exact Nat.le_refl _⟩, ⟨by (with_reducible repeat (first | apply Kd.R_alloc | apply Kd.R_drewN | apply Kd.R_drew)); exact Kd.R_mono HO422.out (fun _ hk => ⟨hk.1.2, hk.2⟩)⟩, ⟨by (with_reducible repeat (first | apply Kd.R_alloc | apply Kd.R_drewN | apply Kd.R_drew)); exact Kd.R_mono HO427.out (fun _ hk => ⟨hk.1.2, hk.2⟩)⟩, ⟨by (with_reducible repeat (first | apply Kd.R_alloc | apply Kd.R_drewN | apply Kd.R_drew)); exact Kd.R_mono HO432.out (fun _ hk => ⟨hk.1.2, hk.2⟩)⟩, ⟨by repeat (first | (with_reducible first | exact HB.out | apply lA | apply lN | apply lD) | exact HB.out)⟩⟩
      case rest =>
       clear HC13
       try clear c1
       try clear p2
       try clear c4
       try clear c4b0
       try clear p6
       try clear c8
       try clear c8b0
       try clear c8b1
       try clear c8b2
       try clear c9
       try clear c9b0
       try clear c9b1
       try clear c9b2
       try clear c11
       try clear c11b0
       try clear c11b1
       try clear c12
       try clear c12b0
       try clear c12b1
       try clear c18
       try clear c18b0
       try clear c18b1
       obtain ⟨kq, x80_12, rfl, HA, HJ12, HO_6, HO_9, HO_12, HB⟩ := hcut
       cases kq with
       | zero => exact absurd HA.out (by simp [reredoslaw07_LexBlanks.j0])
       | succ kj12 =>
        have H := HA.out
        clear HA
        simp only [reredoslaw07_LexBlanks.j0] at H
        by_cases c22 : x80_12 = true
        ·subst c22
         have H1 : (none) = some r := by rw [if_pos rfl] at H; exact H
         clear H
         have H := H1
         clear H1
         exact absurd H (by simp)
        ·replace c22 := Bool.eq_false_iff.mpr c22
         subst c22
         have H1 : (reredoslaw07_LexBlanks.l0 kj12 a0 t417 t418 t423 t428 0) = some r := by rw [if_neg (show ¬ (false = true) by decide)] at H; exact H
         clear H
         have H := H1
         clear H1
         have H' := am H
         clear H
         go_wp2
         repeat (go_quiet (fail); try go_wp2)
         go_loopg [15] kj12 (fun kq v15 w' => ∃ (x15_2 : Int), v15 = .int .i64 x15_2 ∧ Aside0 (reredoslaw07_LexBlanks.l0 kq a0 t417 t418 t423 t428 x15_2 = some r) ∧ Aside0 (kq ≤ kj12) ∧ Aside0 (Kd.R k59 59 w' w.heap.size (fun k_ => some k_ ≠ (v426 : Value).ownBlock ∧ some k_ ≠ (v431 : Value).ownBlock) v421 t418) ∧ Aside0 (Kd.R k59 59 w' w.heap.size (fun k_ => some k_ ≠ (v421 : Value).ownBlock ∧ some k_ ≠ (v431 : Value).ownBlock) v426 t423) ∧ Aside0 (Kd.R k59 59 w' w.heap.size (fun k_ => some k_ ≠ (v421 : Value).ownBlock ∧ some k_ ≠ (v426 : Value).ownBlock) v431 t428) ∧ Aside0 (Below w.heap.size w w'))
         case atStart => exact ⟨(0), (by first | rfl | (simp; done) | (simp [*]; done)), H', ⟨Nat.le_refl _⟩, ⟨by (with_reducible repeat (first | apply Kd.R_alloc | apply Kd.R_drewN | apply Kd.R_drew)); exact HO_6.out⟩, ⟨by (with_reducible repeat (first | apply Kd.R_alloc | apply Kd.R_drewN | apply Kd.R_drew)); exact HO_9.out⟩, ⟨by (with_reducible repeat (first | apply Kd.R_alloc | apply Kd.R_drewN | apply Kd.R_drew)); exact HO_12.out⟩, ⟨by repeat (first | (with_reducible first | exact HB.out | apply lA | apply lN | apply lD) | exact HB.out)⟩⟩
         case round =>
          clear H'
          try clear c1
          try clear c2
          try clear p2
          try clear c4
          try clear c4b0
          try clear p6
          try clear c8
          try clear c8b0
          try clear c8b1
          try clear c8b2
          try clear c9
          try clear c9b0
          try clear c9b1
          try clear c9b2
          try clear c11
          try clear c11b0
          try clear c11b1
          try clear c12
          try clear c12b0
          try clear c12b1
          try clear c18
          try clear c18b0
          try clear c18b1
          try clear c22
          try clear p2
          try clear p6
          obtain ⟨x15_2, rfl, HA, HK2, HO_6, HO_9, HO_12, HB⟩ := hrel
          cases gk with
          | zero => exact absurd HA.out (by simp [reredoslaw07_LexBlanks.l0])
          | succ k2 =>
           have H := HA.out
           clear HA
           simp only [reredoslaw07_LexBlanks.l0] at H
           by_cases c23 : x15_2 < (t423.length : Int)
           ·rw [if_pos c23] at H
            have c23b0 : decide (x15_2 < (t423.length : Int)) = true := decide_eq_true c23
            clear c23
            obtain ⟨ji24, hji24⟩ : ∃ j_ : Int, (wrap64 ((t418.length : Int) + x15_2)) = j_ := ⟨_, rfl⟩
            replace H : (if 0 ≤ (ji24) then (if (ji24) < (t428.length : Int) then (if 0 ≤ x15_2 then (if ((rd_T59 t428 (ji24)).f0) = ((rd_T59 t423 x15_2).f0) then (if ((rd_T59 t428 (ji24)).f1).toList = ((rd_T59 t423 x15_2).f1).toList then (if ((rd_T59 t428 (ji24)).f2) = (wrap64 ((wrap64 (((rd_T59 t423 x15_2).f2) + (a0.size : Int))) + 1)) then (reredoslaw07_LexBlanks.l0 k2 a0 t417 t418 t423 t428 (wrap64 (x15_2 + 1))) else (none)) else (none)) else (none)) else (none)) else (none)) else (none)) = some r := by first | (rw [hji24] at H; exact H) | (simp only [hji24] at H ⊢; exact H)
            have hji24w : (IntKind.i64.wrap ((t418.length : Int) + x15_2)) = ji24 := (i64_w _).trans hji24
            by_cases c25 : 0 ≤ (ji24)
            ·rw [if_pos c25] at H
             have c25b0 : decide (0 ≤ (ji24)) = true := decide_eq_true c25
             clear c25
             by_cases c26 : (ji24) < (t428.length : Int)
             ·rw [if_pos c26] at H
              have c26b0 : decide ((ji24) < (t428.length : Int)) = true := decide_eq_true c26
              clear c26
              by_cases c27 : 0 ≤ x15_2
              ·rw [if_pos c27] at H
               have c27b0 : decide (0 ≤ x15_2) = true := decide_eq_true c27
               clear c27
               by_cases c28 : ((rd_T59 t428 (ji24)).f0) = ((rd_T59 t423 x15_2).f0)
               ·rw [if_pos c28] at H
                have c28b0 : (((rd_T59 t428 (ji24)).f0) == ((rd_T59 t423 x15_2).f0)) = true := beq_iff_eq.mpr c28
                have c28b1 : (((rd_T59 t428 (ji24)).f0) != ((rd_T59 t423 x15_2).f0)) = false := bne_eq_false_iff_eq.mpr c28
                clear c28
                by_cases c29 : ((rd_T59 t428 (ji24)).f1).toList = ((rd_T59 t423 x15_2).f1).toList
                ·rw [if_pos c29] at H
                 have c29b0 : (((rd_T59 t428 (ji24)).f1).toList == ((rd_T59 t423 x15_2).f1).toList) = true := beq_iff_eq.mpr c29
                 have c29b1 : (((rd_T59 t428 (ji24)).f1).toList != ((rd_T59 t423 x15_2).f1).toList) = false := bne_eq_false_iff_eq.mpr c29
                 clear c29
                 by_cases c30 : ((rd_T59 t428 (ji24)).f2) = (wrap64 ((wrap64 (((rd_T59 t423 x15_2).f2) + (a0.size : Int))) + 1))
                 ·rw [if_pos c30] at H
                  have c30b0 : (((rd_T59 t428 (ji24)).f2) == (wrap64 ((wrap64 (((rd_T59 t423 x15_2).f2) + (a0.size : Int))) + 1))) = true := beq_iff_eq.mpr c30
                  have c30b1 : (((rd_T59 t428 (ji24)).f2) != (wrap64 ((wrap64 (((rd_T59 t423 x15_2).f2) + (a0.size : Int))) + 1))) = false := bne_eq_false_iff_eq.mpr c30
                  clear c30
                  have H' := am H
                  clear H
                  obtain ⟨Ao31, co31, eo31⟩ := Kd.R_slice HO_9.out
                  subst eo31
                  obtain ⟨Ao32, co32, eo32⟩ := Kd.R_slice HO_6.out
                  subst eo32
                  obtain ⟨Ao33, co33, eo33⟩ := Kd.R_slice HO_12.out
                  subst eo33
                  have p433 : 0 ≤ ((ji24) : Int) := of_decide_eq_true (by first | (with_reducible assumption) | assumption)
                  have q433 : (ji24) < (t428.length : Int) := of_decide_eq_true (by first | (with_reducible assumption) | assumption)
                  obtain ⟨ad433, e433, hx433_0, hx433_1, hx433_2⟩ := at_T59 (Kd.R_reads' HO_12.out).2.2 (ji24) p433 q433
                  cases e433
                  replace p433 := eq_true p433
                  replace q433 := eq_true q433
                  go_wp2_with (first | ((with_reducible refine gate_dst (N := 16) rfl ?_); (try (refine gate_guard (by rfl) ?_; dsimp only)); refine box_event ?hg (N := 16) ?hd (cs := #[.int .i64 0, .string (⟨#[]⟩ : ByteArray), .int .i64 0]) (t := 59) ?hr ?_; (case hd => rfl); (case hg => rfl); (case hr => first | (go_simp; done) | (go_simp; rfl)); intro gb434 hg w34 hbox hb; have n0_ := am (Kd.R_below (Kd.R_elderB (by (with_reducible repeat (first | apply Kd.R_alloc | apply Kd.R_drewN | apply Kd.R_drew)); exact HO_6.out) gb434 (Nat.le_of_eq hg.symm)) hb); have n1_ := am (Kd.R_below (Kd.R_elderB (by (with_reducible repeat (first | apply Kd.R_alloc | apply Kd.R_drewN | apply Kd.R_drew)); exact HO_9.out) gb434 (Nat.le_of_eq hg.symm)) hb); have n2_ := am (Kd.R_below (Kd.R_elderB (by (with_reducible repeat (first | apply Kd.R_alloc | apply Kd.R_drewN | apply Kd.R_drew)); exact HO_12.out) gb434 (Nat.le_of_eq hg.symm)) hb); have n3_ := am (below_step (by repeat (first | (with_reducible first | exact HB.out | apply lA | apply lN | apply lD) | exact HB.out)) hb); have n4_ := am (hbox); have n5_ := am ((by rw [hg]; exact (below_size (by repeat (first | (with_reducible first | exact HB.out | apply lA | apply lN | apply lD) | exact HB.out))) : w.heap.size ≤ gb434)); have n6_ := n5_; have neY : some gb434 ≠ (Value.slice Ao31 t423.length co31).ownBlock := (by rw [hg]; exact Kd.R_ne_new HO_9.out 0); clear HO_6; clear HO_9; clear HO_12; clear HB; have HO_6 := n0_; have HO_9 := n1_; have HO_12 := n2_; have HB := n3_; have BK434 := n4_; have GW434 := n5_; have GE434 := n6_; clear n0_ n1_ n2_ n3_ n4_ n5_ n6_; clear hb hbox hg; have hcz35_0 : w34.cell? ⟨gb434, 0, none⟩ = some (.int .i64 0) := (blk_cell BK434.out 0).trans rfl; have hcz35_1 : w34.cell? ⟨gb434, 1, none⟩ = some (.string (⟨#[]⟩ : ByteArray)) := (blk_cell BK434.out 1).trans rfl; have hcz35_2 : w34.cell? ⟨gb434, 2, none⟩ = some (.int .i64 0) := (blk_cell BK434.out 2).trans rfl; have hfz35_0 := blk_frozen BK434.out 0; have hfz35_1 := blk_frozen BK434.out 1; have hfz35_2 := blk_frozen BK434.out 2; have p435 : 0 ≤ (x15_2 : Int) := of_decide_eq_true (by first | (with_reducible assumption) | assumption); have q435 : x15_2 < (t423.length : Int) := of_decide_eq_true (by first | (with_reducible assumption) | assumption); obtain ⟨ad435, e435, hx435_0, hx435_1, hx435_2⟩ := at_T59 (Kd.R_reads' HO_9.out).2.2 x15_2 p435 q435; cases e435; have hn435_0 : ad435.block ≠ gb434 := Kd.own_blk neY; have hn435_1 : ad435.block ≠ gb434 := Kd.own_blk neY; have hn435_2 : ad435.block ≠ gb434 := Kd.own_blk neY; replace hx435_0 := (cell_far (p := ⟨gb434, 0, none⟩) (by first | (rw [add_block]; exact hn435_0) | (show (Addr.add _ _).block ≠ _; rw [add_block]; exact hn435_0) | exact hn435_0) (.int .i64 ((rd_T59 t428 (ji24)).f0))).trans hx435_0; replace hx435_1 := (cell_far (p := ⟨gb434, 0, none⟩) (by first | (rw [add_block]; exact hn435_0) | (show (Addr.add _ _).block ≠ _; rw [add_block]; exact hn435_0) | exact hn435_0) (.int .i64 ((rd_T59 t428 (ji24)).f0))).trans hx435_1; replace hx435_2 := (cell_far (p := ⟨gb434, 0, none⟩) (by first | (rw [add_block]; exact hn435_0) | (show (Addr.add _ _).block ≠ _; rw [add_block]; exact hn435_0) | exact hn435_0) (.int .i64 ((rd_T59 t428 (ji24)).f0))).trans hx435_2; replace hx435_0 := (cell_far (p := ⟨gb434, 1, none⟩) (by first | (rw [add_block]; exact hn435_1) | (show (Addr.add _ _).block ≠ _; rw [add_block]; exact hn435_1) | exact hn435_1) (.string ((rd_T59 t428 (ji24)).f1))).trans hx435_0; replace hx435_1 := (cell_far (p := ⟨gb434, 1, none⟩) (by first | (rw [add_block]; exact hn435_1) | (show (Addr.add _ _).block ≠ _; rw [add_block]; exact hn435_1) | exact hn435_1) (.string ((rd_T59 t428 (ji24)).f1))).trans hx435_1; replace hx435_2 := (cell_far (p := ⟨gb434, 1, none⟩) (by first | (rw [add_block]; exact hn435_1) | (show (Addr.add _ _).block ≠ _; rw [add_block]; exact hn435_1) | exact hn435_1) (.string ((rd_T59 t428 (ji24)).f1))).trans hx435_2; replace hx435_0 := (cell_far (p := ⟨gb434, 2, none⟩) (by first | (rw [add_block]; exact hn435_2) | (show (Addr.add _ _).block ≠ _; rw [add_block]; exact hn435_2) | exact hn435_2) (.int .i64 ((rd_T59 t428 (ji24)).f2))).trans hx435_0; replace hx435_1 := (cell_far (p := ⟨gb434, 2, none⟩) (by first | (rw [add_block]; exact hn435_2) | (show (Addr.add _ _).block ≠ _; rw [add_block]; exact hn435_2) | exact hn435_2) (.int .i64 ((rd_T59 t428 (ji24)).f2))).trans hx435_1; replace hx435_2 := (cell_far (p := ⟨gb434, 2, none⟩) (by first | (rw [add_block]; exact hn435_2) | (show (Addr.add _ _).block ≠ _; rw [add_block]; exact hn435_2) | exact hn435_2) (.int .i64 ((rd_T59 t428 (ji24)).f2))).trans hx435_2; (try have hy435_0 := fun (n_ : Nat) => (show (((((w34.drewN n_).setCell ⟨gb434, 0, none⟩ (.int .i64 ((rd_T59 t428 (ji24)).f0))).setCell ⟨gb434, 1, none⟩ (.string ((rd_T59 t428 (ji24)).f1))).setCell ⟨gb434, 2, none⟩ (.int .i64 ((rd_T59 t428 (ji24)).f2)))).cell? _ = some _ from hx435_0)); (try have hy435_1 := fun (n_ : Nat) => (show (((((w34.drewN n_).setCell ⟨gb434, 0, none⟩ (.int .i64 ((rd_T59 t428 (ji24)).f0))).setCell ⟨gb434, 1, none⟩ (.string ((rd_T59 t428 (ji24)).f1))).setCell ⟨gb434, 2, none⟩ (.int .i64 ((rd_T59 t428 (ji24)).f2)))).cell? _ = some _ from hx435_1)); (try have hy435_2 := fun (n_ : Nat) => (show (((((w34.drewN n_).setCell ⟨gb434, 0, none⟩ (.int .i64 ((rd_T59 t428 (ji24)).f0))).setCell ⟨gb434, 1, none⟩ (.string ((rd_T59 t428 (ji24)).f1))).setCell ⟨gb434, 2, none⟩ (.int .i64 ((rd_T59 t428 (ji24)).f2)))).cell? _ = some _ from hx435_2)); clear hn435_0; clear hn435_1; clear hn435_2; replace p435 := eq_true p435; replace q435 := eq_true q435; have p436 : 0 ≤ (x15_2 : Int) := of_decide_eq_true (by first | (with_reducible assumption) | assumption); have q436 : x15_2 < (t423.length : Int) := of_decide_eq_true (by first | (with_reducible assumption) | assumption); obtain ⟨ad436, e436, hx436_0, hx436_1, hx436_2⟩ := at_T59 (Kd.R_reads' HO_9.out).2.2 x15_2 p436 q436; obtain rfl : ad435 = ad436 := (by injection e436); have hn436_0 : ad435.block ≠ gb434 := Kd.own_blk neY; have hn436_1 : ad435.block ≠ gb434 := Kd.own_blk neY; have hn436_2 : ad435.block ≠ gb434 := Kd.own_blk neY; replace hx436_0 := (cell_far (p := ⟨gb434, 0, none⟩) (by first | (rw [add_block]; exact hn436_0) | (show (Addr.add _ _).block ≠ _; rw [add_block]; exact hn436_0) | exact hn436_0) (.int .i64 ((rd_T59 t428 (ji24)).f0))).trans hx436_0; replace hx436_1 := (cell_far (p := ⟨gb434, 0, none⟩) (by first | (rw [add_block]; exact hn436_0) | (show (Addr.add _ _).block ≠ _; rw [add_block]; exact hn436_0) | exact hn436_0) (.int .i64 ((rd_T59 t428 (ji24)).f0))).trans hx436_1; replace hx436_2 := (cell_far (p := ⟨gb434, 0, none⟩) (by first | (rw [add_block]; exact hn436_0) | (show (Addr.add _ _).block ≠ _; rw [add_block]; exact hn436_0) | exact hn436_0) (.int .i64 ((rd_T59 t428 (ji24)).f0))).trans hx436_2; replace hx436_0 := (cell_far (p := ⟨gb434, 1, none⟩) (by first | (rw [add_block]; exact hn436_1) | (show (Addr.add _ _).block ≠ _; rw [add_block]; exact hn436_1) | exact hn436_1) (.string ((rd_T59 t428 (ji24)).f1))).trans hx436_0; replace hx436_1 := (cell_far (p := ⟨gb434, 1, none⟩) (by first | (rw [add_block]; exact hn436_1) | (show (Addr.add _ _).block ≠ _; rw [add_block]; exact hn436_1) | exact hn436_1) (.string ((rd_T59 t428 (ji24)).f1))).trans hx436_1; replace hx436_2 := (cell_far (p := ⟨gb434, 1, none⟩) (by first | (rw [add_block]; exact hn436_1) | (show (Addr.add _ _).block ≠ _; rw [add_block]; exact hn436_1) | exact hn436_1) (.string ((rd_T59 t428 (ji24)).f1))).trans hx436_2; replace hx436_0 := (cell_far (p := ⟨gb434, 2, none⟩) (by first | (rw [add_block]; exact hn436_2) | (show (Addr.add _ _).block ≠ _; rw [add_block]; exact hn436_2) | exact hn436_2) (.int .i64 ((rd_T59 t428 (ji24)).f2))).trans hx436_0; replace hx436_1 := (cell_far (p := ⟨gb434, 2, none⟩) (by first | (rw [add_block]; exact hn436_2) | (show (Addr.add _ _).block ≠ _; rw [add_block]; exact hn436_2) | exact hn436_2) (.int .i64 ((rd_T59 t428 (ji24)).f2))).trans hx436_1; replace hx436_2 := (cell_far (p := ⟨gb434, 2, none⟩) (by first | (rw [add_block]; exact hn436_2) | (show (Addr.add _ _).block ≠ _; rw [add_block]; exact hn436_2) | exact hn436_2) (.int .i64 ((rd_T59 t428 (ji24)).f2))).trans hx436_2; (try have hy436_0 := fun (n_ : Nat) => (show (((((w34.drewN n_).setCell ⟨gb434, 0, none⟩ (.int .i64 ((rd_T59 t428 (ji24)).f0))).setCell ⟨gb434, 1, none⟩ (.string ((rd_T59 t428 (ji24)).f1))).setCell ⟨gb434, 2, none⟩ (.int .i64 ((rd_T59 t428 (ji24)).f2)))).cell? _ = some _ from hx436_0)); (try have hy436_1 := fun (n_ : Nat) => (show (((((w34.drewN n_).setCell ⟨gb434, 0, none⟩ (.int .i64 ((rd_T59 t428 (ji24)).f0))).setCell ⟨gb434, 1, none⟩ (.string ((rd_T59 t428 (ji24)).f1))).setCell ⟨gb434, 2, none⟩ (.int .i64 ((rd_T59 t428 (ji24)).f2)))).cell? _ = some _ from hx436_1)); (try have hy436_2 := fun (n_ : Nat) => (show (((((w34.drewN n_).setCell ⟨gb434, 0, none⟩ (.int .i64 ((rd_T59 t428 (ji24)).f0))).setCell ⟨gb434, 1, none⟩ (.string ((rd_T59 t428 (ji24)).f1))).setCell ⟨gb434, 2, none⟩ (.int .i64 ((rd_T59 t428 (ji24)).f2)))).cell? _ = some _ from hx436_2)); clear hn436_0; clear hn436_1; clear hn436_2; replace p436 := eq_true p436; replace q436 := eq_true q436; have p437 : 0 ≤ (x15_2 : Int) := of_decide_eq_true (by first | (with_reducible assumption) | assumption); have q437 : x15_2 < (t423.length : Int) := of_decide_eq_true (by first | (with_reducible assumption) | assumption); obtain ⟨ad437, e437, hx437_0, hx437_1, hx437_2⟩ := at_T59 (Kd.R_reads' HO_9.out).2.2 x15_2 p437 q437; obtain rfl : ad435 = ad437 := (by injection e437); have hn437_0 : ad435.block ≠ gb434 := Kd.own_blk neY; have hn437_1 : ad435.block ≠ gb434 := Kd.own_blk neY; have hn437_2 : ad435.block ≠ gb434 := Kd.own_blk neY; replace hx437_0 := (cell_far (p := ⟨gb434, 0, none⟩) (by first | (rw [add_block]; exact hn437_0) | (show (Addr.add _ _).block ≠ _; rw [add_block]; exact hn437_0) | exact hn437_0) (.int .i64 ((rd_T59 t428 (ji24)).f0))).trans hx437_0; replace hx437_1 := (cell_far (p := ⟨gb434, 0, none⟩) (by first | (rw [add_block]; exact hn437_0) | (show (Addr.add _ _).block ≠ _; rw [add_block]; exact hn437_0) | exact hn437_0) (.int .i64 ((rd_T59 t428 (ji24)).f0))).trans hx437_1; replace hx437_2 := (cell_far (p := ⟨gb434, 0, none⟩) (by first | (rw [add_block]; exact hn437_0) | (show (Addr.add _ _).block ≠ _; rw [add_block]; exact hn437_0) | exact hn437_0) (.int .i64 ((rd_T59 t428 (ji24)).f0))).trans hx437_2; replace hx437_0 := (cell_far (p := ⟨gb434, 1, none⟩) (by first | (rw [add_block]; exact hn437_1) | (show (Addr.add _ _).block ≠ _; rw [add_block]; exact hn437_1) | exact hn437_1) (.string ((rd_T59 t428 (ji24)).f1))).trans hx437_0; replace hx437_1 := (cell_far (p := ⟨gb434, 1, none⟩) (by first | (rw [add_block]; exact hn437_1) | (show (Addr.add _ _).block ≠ _; rw [add_block]; exact hn437_1) | exact hn437_1) (.string ((rd_T59 t428 (ji24)).f1))).trans hx437_1; replace hx437_2 := (cell_far (p := ⟨gb434, 1, none⟩) (by first | (rw [add_block]; exact hn437_1) | (show (Addr.add _ _).block ≠ _; rw [add_block]; exact hn437_1) | exact hn437_1) (.string ((rd_T59 t428 (ji24)).f1))).trans hx437_2; replace hx437_0 := (cell_far (p := ⟨gb434, 2, none⟩) (by first | (rw [add_block]; exact hn437_2) | (show (Addr.add _ _).block ≠ _; rw [add_block]; exact hn437_2) | exact hn437_2) (.int .i64 ((rd_T59 t428 (ji24)).f2))).trans hx437_0; replace hx437_1 := (cell_far (p := ⟨gb434, 2, none⟩) (by first | (rw [add_block]; exact hn437_2) | (show (Addr.add _ _).block ≠ _; rw [add_block]; exact hn437_2) | exact hn437_2) (.int .i64 ((rd_T59 t428 (ji24)).f2))).trans hx437_1; replace hx437_2 := (cell_far (p := ⟨gb434, 2, none⟩) (by first | (rw [add_block]; exact hn437_2) | (show (Addr.add _ _).block ≠ _; rw [add_block]; exact hn437_2) | exact hn437_2) (.int .i64 ((rd_T59 t428 (ji24)).f2))).trans hx437_2; (try have hy437_0 := fun (n_ : Nat) => (show (((((w34.drewN n_).setCell ⟨gb434, 0, none⟩ (.int .i64 ((rd_T59 t428 (ji24)).f0))).setCell ⟨gb434, 1, none⟩ (.string ((rd_T59 t428 (ji24)).f1))).setCell ⟨gb434, 2, none⟩ (.int .i64 ((rd_T59 t428 (ji24)).f2)))).cell? _ = some _ from hx437_0)); (try have hy437_1 := fun (n_ : Nat) => (show (((((w34.drewN n_).setCell ⟨gb434, 0, none⟩ (.int .i64 ((rd_T59 t428 (ji24)).f0))).setCell ⟨gb434, 1, none⟩ (.string ((rd_T59 t428 (ji24)).f1))).setCell ⟨gb434, 2, none⟩ (.int .i64 ((rd_T59 t428 (ji24)).f2)))).cell? _ = some _ from hx437_1)); (try have hy437_2 := fun (n_ : Nat) => (show (((((w34.drewN n_).setCell ⟨gb434, 0, none⟩ (.int .i64 ((rd_T59 t428 (ji24)).f0))).setCell ⟨gb434, 1, none⟩ (.string ((rd_T59 t428 (ji24)).f1))).setCell ⟨gb434, 2, none⟩ (.int .i64 ((rd_T59 t428 (ji24)).f2)))).cell? _ = some _ from hx437_2)); clear hn437_0; clear hn437_1; clear hn437_2; replace p437 := eq_true p437; replace q437 := eq_true q437))
                  repeat (go_quiet (first | ((with_reducible refine gate_dst (N := 16) rfl ?_); (try (refine gate_guard (by rfl) ?_; dsimp only)); refine box_event ?hg (N := 16) ?hd (cs := #[.int .i64 0, .string (⟨#[]⟩ : ByteArray), .int .i64 0]) (t := 59) ?hr ?_; (case hd => rfl); (case hg => rfl); (case hr => first | (go_simp; done) | (go_simp; rfl)); intro gb434 hg w34 hbox hb; have n0_ := am (Kd.R_below (Kd.R_elderB (by (with_reducible repeat (first | apply Kd.R_alloc | apply Kd.R_drewN | apply Kd.R_drew)); exact HO_6.out) gb434 (Nat.le_of_eq hg.symm)) hb); have n1_ := am (Kd.R_below (Kd.R_elderB (by (with_reducible repeat (first | apply Kd.R_alloc | apply Kd.R_drewN | apply Kd.R_drew)); exact HO_9.out) gb434 (Nat.le_of_eq hg.symm)) hb); have n2_ := am (Kd.R_below (Kd.R_elderB (by (with_reducible repeat (first | apply Kd.R_alloc | apply Kd.R_drewN | apply Kd.R_drew)); exact HO_12.out) gb434 (Nat.le_of_eq hg.symm)) hb); have n3_ := am (below_step (by repeat (first | (with_reducible first | exact HB.out | apply lA | apply lN | apply lD) | exact HB.out)) hb); have n4_ := am (hbox); have n5_ := am ((by rw [hg]; exact (below_size (by repeat (first | (with_reducible first | exact HB.out | apply lA | apply lN | apply lD) | exact HB.out))) : w.heap.size ≤ gb434)); have n6_ := n5_; have neY : some gb434 ≠ (Value.slice Ao31 t423.length co31).ownBlock := (by rw [hg]; exact Kd.R_ne_new HO_9.out 0); clear HO_6; clear HO_9; clear HO_12; clear HB; have HO_6 := n0_; have HO_9 := n1_; have HO_12 := n2_; have HB := n3_; have BK434 := n4_; have GW434 := n5_; have GE434 := n6_; clear n0_ n1_ n2_ n3_ n4_ n5_ n6_; clear hb hbox hg; have hcz35_0 : w34.cell? ⟨gb434, 0, none⟩ = some (.int .i64 0) := (blk_cell BK434.out 0).trans rfl; have hcz35_1 : w34.cell? ⟨gb434, 1, none⟩ = some (.string (⟨#[]⟩ : ByteArray)) := (blk_cell BK434.out 1).trans rfl; have hcz35_2 : w34.cell? ⟨gb434, 2, none⟩ = some (.int .i64 0) := (blk_cell BK434.out 2).trans rfl; have hfz35_0 := blk_frozen BK434.out 0; have hfz35_1 := blk_frozen BK434.out 1; have hfz35_2 := blk_frozen BK434.out 2; have p435 : 0 ≤ (x15_2 : Int) := of_decide_eq_true (by first | (with_reducible assumption) | assumption); have q435 : x15_2 < (t423.length : Int) := of_decide_eq_true (by first | (with_reducible assumption) | assumption); obtain ⟨ad435, e435, hx435_0, hx435_1, hx435_2⟩ := at_T59 (Kd.R_reads' HO_9.out).2.2 x15_2 p435 q435; cases e435; have hn435_0 : ad435.block ≠ gb434 := Kd.own_blk neY; have hn435_1 : ad435.block ≠ gb434 := Kd.own_blk neY; have hn435_2 : ad435.block ≠ gb434 := Kd.own_blk neY; replace hx435_0 := (cell_far (p := ⟨gb434, 0, none⟩) (by first | (rw [add_block]; exact hn435_0) | (show (Addr.add _ _).block ≠ _; rw [add_block]; exact hn435_0) | exact hn435_0) (.int .i64 ((rd_T59 t428 (ji24)).f0))).trans hx435_0; replace hx435_1 := (cell_far (p := ⟨gb434, 0, none⟩) (by first | (rw [add_block]; exact hn435_0) | (show (Addr.add _ _).block ≠ _; rw [add_block]; exact hn435_0) | exact hn435_0) (.int .i64 ((rd_T59 t428 (ji24)).f0))).trans hx435_1; replace hx435_2 := (cell_far (p := ⟨gb434, 0, none⟩) (by first | (rw [add_block]; exact hn435_0) | (show (Addr.add _ _).block ≠ _; rw [add_block]; exact hn435_0) | exact hn435_0) (.int .i64 ((rd_T59 t428 (ji24)).f0))).trans hx435_2; replace hx435_0 := (cell_far (p := ⟨gb434, 1, none⟩) (by first | (rw [add_block]; exact hn435_1) | (show (Addr.add _ _).block ≠ _; rw [add_block]; exact hn435_1) | exact hn435_1) (.string ((rd_T59 t428 (ji24)).f1))).trans hx435_0; replace hx435_1 := (cell_far (p := ⟨gb434, 1, none⟩) (by first | (rw [add_block]; exact hn435_1) | (show (Addr.add _ _).block ≠ _; rw [add_block]; exact hn435_1) | exact hn435_1) (.string ((rd_T59 t428 (ji24)).f1))).trans hx435_1; replace hx435_2 := (cell_far (p := ⟨gb434, 1, none⟩) (by first | (rw [add_block]; exact hn435_1) | (show (Addr.add _ _).block ≠ _; rw [add_block]; exact hn435_1) | exact hn435_1) (.string ((rd_T59 t428 (ji24)).f1))).trans hx435_2; replace hx435_0 := (cell_far (p := ⟨gb434, 2, none⟩) (by first | (rw [add_block]; exact hn435_2) | (show (Addr.add _ _).block ≠ _; rw [add_block]; exact hn435_2) | exact hn435_2) (.int .i64 ((rd_T59 t428 (ji24)).f2))).trans hx435_0; replace hx435_1 := (cell_far (p := ⟨gb434, 2, none⟩) (by first | (rw [add_block]; exact hn435_2) | (show (Addr.add _ _).block ≠ _; rw [add_block]; exact hn435_2) | exact hn435_2) (.int .i64 ((rd_T59 t428 (ji24)).f2))).trans hx435_1; replace hx435_2 := (cell_far (p := ⟨gb434, 2, none⟩) (by first | (rw [add_block]; exact hn435_2) | (show (Addr.add _ _).block ≠ _; rw [add_block]; exact hn435_2) | exact hn435_2) (.int .i64 ((rd_T59 t428 (ji24)).f2))).trans hx435_2; (try have hy435_0 := fun (n_ : Nat) => (show (((((w34.drewN n_).setCell ⟨gb434, 0, none⟩ (.int .i64 ((rd_T59 t428 (ji24)).f0))).setCell ⟨gb434, 1, none⟩ (.string ((rd_T59 t428 (ji24)).f1))).setCell ⟨gb434, 2, none⟩ (.int .i64 ((rd_T59 t428 (ji24)).f2)))).cell? _ = some _ from hx435_0)); (try have hy435_1 := fun (n_ : Nat) => (show (((((w34.drewN n_).setCell ⟨gb434, 0, none⟩ (.int .i64 ((rd_T59 t428 (ji24)).f0))).setCell ⟨gb434, 1, none⟩ (.string ((rd_T59 t428 (ji24)).f1))).setCell ⟨gb434, 2, none⟩ (.int .i64 ((rd_T59 t428 (ji24)).f2)))).cell? _ = some _ from hx435_1)); (try have hy435_2 := fun (n_ : Nat) => (show (((((w34.drewN n_).setCell ⟨gb434, 0, none⟩ (.int .i64 ((rd_T59 t428 (ji24)).f0))).setCell ⟨gb434, 1, none⟩ (.string ((rd_T59 t428 (ji24)).f1))).setCell ⟨gb434, 2, none⟩ (.int .i64 ((rd_T59 t428 (ji24)).f2)))).cell? _ = some _ from hx435_2)); clear hn435_0; clear hn435_1; clear hn435_2; replace p435 := eq_true p435; replace q435 := eq_true q435; have p436 : 0 ≤ (x15_2 : Int) := of_decide_eq_true (by first | (with_reducible assumption) | assumption); have q436 : x15_2 < (t423.length : Int) := of_decide_eq_true (by first | (with_reducible assumption) | assumption); obtain ⟨ad436, e436, hx436_0, hx436_1, hx436_2⟩ := at_T59 (Kd.R_reads' HO_9.out).2.2 x15_2 p436 q436; obtain rfl : ad435 = ad436 := (by injection e436); have hn436_0 : ad435.block ≠ gb434 := Kd.own_blk neY; have hn436_1 : ad435.block ≠ gb434 := Kd.own_blk neY; have hn436_2 : ad435.block ≠ gb434 := Kd.own_blk neY; replace hx436_0 := (cell_far (p := ⟨gb434, 0, none⟩) (by first | (rw [add_block]; exact hn436_0) | (show (Addr.add _ _).block ≠ _; rw [add_block]; exact hn436_0) | exact hn436_0) (.int .i64 ((rd_T59 t428 (ji24)).f0))).trans hx436_0; replace hx436_1 := (cell_far (p := ⟨gb434, 0, none⟩) (by first | (rw [add_block]; exact hn436_0) | (show (Addr.add _ _).block ≠ _; rw [add_block]; exact hn436_0) | exact hn436_0) (.int .i64 ((rd_T59 t428 (ji24)).f0))).trans hx436_1; replace hx436_2 := (cell_far (p := ⟨gb434, 0, none⟩) (by first | (rw [add_block]; exact hn436_0) | (show (Addr.add _ _).block ≠ _; rw [add_block]; exact hn436_0) | exact hn436_0) (.int .i64 ((rd_T59 t428 (ji24)).f0))).trans hx436_2; replace hx436_0 := (cell_far (p := ⟨gb434, 1, none⟩) (by first | (rw [add_block]; exact hn436_1) | (show (Addr.add _ _).block ≠ _; rw [add_block]; exact hn436_1) | exact hn436_1) (.string ((rd_T59 t428 (ji24)).f1))).trans hx436_0; replace hx436_1 := (cell_far (p := ⟨gb434, 1, none⟩) (by first | (rw [add_block]; exact hn436_1) | (show (Addr.add _ _).block ≠ _; rw [add_block]; exact hn436_1) | exact hn436_1) (.string ((rd_T59 t428 (ji24)).f1))).trans hx436_1; replace hx436_2 := (cell_far (p := ⟨gb434, 1, none⟩) (by first | (rw [add_block]; exact hn436_1) | (show (Addr.add _ _).block ≠ _; rw [add_block]; exact hn436_1) | exact hn436_1) (.string ((rd_T59 t428 (ji24)).f1))).trans hx436_2; replace hx436_0 := (cell_far (p := ⟨gb434, 2, none⟩) (by first | (rw [add_block]; exact hn436_2) | (show (Addr.add _ _).block ≠ _; rw [add_block]; exact hn436_2) | exact hn436_2) (.int .i64 ((rd_T59 t428 (ji24)).f2))).trans hx436_0; replace hx436_1 := (cell_far (p := ⟨gb434, 2, none⟩) (by first | (rw [add_block]; exact hn436_2) | (show (Addr.add _ _).block ≠ _; rw [add_block]; exact hn436_2) | exact hn436_2) (.int .i64 ((rd_T59 t428 (ji24)).f2))).trans hx436_1; replace hx436_2 := (cell_far (p := ⟨gb434, 2, none⟩) (by first | (rw [add_block]; exact hn436_2) | (show (Addr.add _ _).block ≠ _; rw [add_block]; exact hn436_2) | exact hn436_2) (.int .i64 ((rd_T59 t428 (ji24)).f2))).trans hx436_2; (try have hy436_0 := fun (n_ : Nat) => (show (((((w34.drewN n_).setCell ⟨gb434, 0, none⟩ (.int .i64 ((rd_T59 t428 (ji24)).f0))).setCell ⟨gb434, 1, none⟩ (.string ((rd_T59 t428 (ji24)).f1))).setCell ⟨gb434, 2, none⟩ (.int .i64 ((rd_T59 t428 (ji24)).f2)))).cell? _ = some _ from hx436_0)); (try have hy436_1 := fun (n_ : Nat) => (show (((((w34.drewN n_).setCell ⟨gb434, 0, none⟩ (.int .i64 ((rd_T59 t428 (ji24)).f0))).setCell ⟨gb434, 1, none⟩ (.string ((rd_T59 t428 (ji24)).f1))).setCell ⟨gb434, 2, none⟩ (.int .i64 ((rd_T59 t428 (ji24)).f2)))).cell? _ = some _ from hx436_1)); (try have hy436_2 := fun (n_ : Nat) => (show (((((w34.drewN n_).setCell ⟨gb434, 0, none⟩ (.int .i64 ((rd_T59 t428 (ji24)).f0))).setCell ⟨gb434, 1, none⟩ (.string ((rd_T59 t428 (ji24)).f1))).setCell ⟨gb434, 2, none⟩ (.int .i64 ((rd_T59 t428 (ji24)).f2)))).cell? _ = some _ from hx436_2)); clear hn436_0; clear hn436_1; clear hn436_2; replace p436 := eq_true p436; replace q436 := eq_true q436; have p437 : 0 ≤ (x15_2 : Int) := of_decide_eq_true (by first | (with_reducible assumption) | assumption); have q437 : x15_2 < (t423.length : Int) := of_decide_eq_true (by first | (with_reducible assumption) | assumption); obtain ⟨ad437, e437, hx437_0, hx437_1, hx437_2⟩ := at_T59 (Kd.R_reads' HO_9.out).2.2 x15_2 p437 q437; obtain rfl : ad435 = ad437 := (by injection e437); have hn437_0 : ad435.block ≠ gb434 := Kd.own_blk neY; have hn437_1 : ad435.block ≠ gb434 := Kd.own_blk neY; have hn437_2 : ad435.block ≠ gb434 := Kd.own_blk neY; replace hx437_0 := (cell_far (p := ⟨gb434, 0, none⟩) (by first | (rw [add_block]; exact hn437_0) | (show (Addr.add _ _).block ≠ _; rw [add_block]; exact hn437_0) | exact hn437_0) (.int .i64 ((rd_T59 t428 (ji24)).f0))).trans hx437_0; replace hx437_1 := (cell_far (p := ⟨gb434, 0, none⟩) (by first | (rw [add_block]; exact hn437_0) | (show (Addr.add _ _).block ≠ _; rw [add_block]; exact hn437_0) | exact hn437_0) (.int .i64 ((rd_T59 t428 (ji24)).f0))).trans hx437_1; replace hx437_2 := (cell_far (p := ⟨gb434, 0, none⟩) (by first | (rw [add_block]; exact hn437_0) | (show (Addr.add _ _).block ≠ _; rw [add_block]; exact hn437_0) | exact hn437_0) (.int .i64 ((rd_T59 t428 (ji24)).f0))).trans hx437_2; replace hx437_0 := (cell_far (p := ⟨gb434, 1, none⟩) (by first | (rw [add_block]; exact hn437_1) | (show (Addr.add _ _).block ≠ _; rw [add_block]; exact hn437_1) | exact hn437_1) (.string ((rd_T59 t428 (ji24)).f1))).trans hx437_0; replace hx437_1 := (cell_far (p := ⟨gb434, 1, none⟩) (by first | (rw [add_block]; exact hn437_1) | (show (Addr.add _ _).block ≠ _; rw [add_block]; exact hn437_1) | exact hn437_1) (.string ((rd_T59 t428 (ji24)).f1))).trans hx437_1; replace hx437_2 := (cell_far (p := ⟨gb434, 1, none⟩) (by first | (rw [add_block]; exact hn437_1) | (show (Addr.add _ _).block ≠ _; rw [add_block]; exact hn437_1) | exact hn437_1) (.string ((rd_T59 t428 (ji24)).f1))).trans hx437_2; replace hx437_0 := (cell_far (p := ⟨gb434, 2, none⟩) (by first | (rw [add_block]; exact hn437_2) | (show (Addr.add _ _).block ≠ _; rw [add_block]; exact hn437_2) | exact hn437_2) (.int .i64 ((rd_T59 t428 (ji24)).f2))).trans hx437_0; replace hx437_1 := (cell_far (p := ⟨gb434, 2, none⟩) (by first | (rw [add_block]; exact hn437_2) | (show (Addr.add _ _).block ≠ _; rw [add_block]; exact hn437_2) | exact hn437_2) (.int .i64 ((rd_T59 t428 (ji24)).f2))).trans hx437_1; replace hx437_2 := (cell_far (p := ⟨gb434, 2, none⟩) (by first | (rw [add_block]; exact hn437_2) | (show (Addr.add _ _).block ≠ _; rw [add_block]; exact hn437_2) | exact hn437_2) (.int .i64 ((rd_T59 t428 (ji24)).f2))).trans hx437_2; (try have hy437_0 := fun (n_ : Nat) => (show (((((w34.drewN n_).setCell ⟨gb434, 0, none⟩ (.int .i64 ((rd_T59 t428 (ji24)).f0))).setCell ⟨gb434, 1, none⟩ (.string ((rd_T59 t428 (ji24)).f1))).setCell ⟨gb434, 2, none⟩ (.int .i64 ((rd_T59 t428 (ji24)).f2)))).cell? _ = some _ from hx437_0)); (try have hy437_1 := fun (n_ : Nat) => (show (((((w34.drewN n_).setCell ⟨gb434, 0, none⟩ (.int .i64 ((rd_T59 t428 (ji24)).f0))).setCell ⟨gb434, 1, none⟩ (.string ((rd_T59 t428 (ji24)).f1))).setCell ⟨gb434, 2, none⟩ (.int .i64 ((rd_T59 t428 (ji24)).f2)))).cell? _ = some _ from hx437_1)); (try have hy437_2 := fun (n_ : Nat) => (show (((((w34.drewN n_).setCell ⟨gb434, 0, none⟩ (.int .i64 ((rd_T59 t428 (ji24)).f0))).setCell ⟨gb434, 1, none⟩ (.string ((rd_T59 t428 (ji24)).f1))).setCell ⟨gb434, 2, none⟩ (.int .i64 ((rd_T59 t428 (ji24)).f2)))).cell? _ = some _ from hx437_2)); clear hn437_0; clear hn437_1; clear hn437_2; replace p437 := eq_true p437; replace q437 := eq_true q437)); try go_wp2_with (first | ((with_reducible refine gate_dst (N := 16) rfl ?_); (try (refine gate_guard (by rfl) ?_; dsimp only)); refine box_event ?hg (N := 16) ?hd (cs := #[.int .i64 0, .string (⟨#[]⟩ : ByteArray), .int .i64 0]) (t := 59) ?hr ?_; (case hd => rfl); (case hg => rfl); (case hr => first | (go_simp; done) | (go_simp; rfl)); intro gb434 hg w34 hbox hb; have n0_ := am (Kd.R_below (Kd.R_elderB (by (with_reducible repeat (first | apply Kd.R_alloc | apply Kd.R_drewN | apply Kd.R_drew)); exact HO_6.out) gb434 (Nat.le_of_eq hg.symm)) hb); have n1_ := am (Kd.R_below (Kd.R_elderB (by (with_reducible repeat (first | apply Kd.R_alloc | apply Kd.R_drewN | apply Kd.R_drew)); exact HO_9.out) gb434 (Nat.le_of_eq hg.symm)) hb); have n2_ := am (Kd.R_below (Kd.R_elderB (by (with_reducible repeat (first | apply Kd.R_alloc | apply Kd.R_drewN | apply Kd.R_drew)); exact HO_12.out) gb434 (Nat.le_of_eq hg.symm)) hb); have n3_ := am (below_step (by repeat (first | (with_reducible first | exact HB.out | apply lA | apply lN | apply lD) | exact HB.out)) hb); have n4_ := am (hbox); have n5_ := am ((by rw [hg]; exact (below_size (by repeat (first | (with_reducible first | exact HB.out | apply lA | apply lN | apply lD) | exact HB.out))) : w.heap.size ≤ gb434)); have n6_ := n5_; have neY : some gb434 ≠ (Value.slice Ao31 t423.length co31).ownBlock := (by rw [hg]; exact Kd.R_ne_new HO_9.out 0); clear HO_6; clear HO_9; clear HO_12; clear HB; have HO_6 := n0_; have HO_9 := n1_; have HO_12 := n2_; have HB := n3_; have BK434 := n4_; have GW434 := n5_; have GE434 := n6_; clear n0_ n1_ n2_ n3_ n4_ n5_ n6_; clear hb hbox hg; have hcz35_0 : w34.cell? ⟨gb434, 0, none⟩ = some (.int .i64 0) := (blk_cell BK434.out 0).trans rfl; have hcz35_1 : w34.cell? ⟨gb434, 1, none⟩ = some (.string (⟨#[]⟩ : ByteArray)) := (blk_cell BK434.out 1).trans rfl; have hcz35_2 : w34.cell? ⟨gb434, 2, none⟩ = some (.int .i64 0) := (blk_cell BK434.out 2).trans rfl; have hfz35_0 := blk_frozen BK434.out 0; have hfz35_1 := blk_frozen BK434.out 1; have hfz35_2 := blk_frozen BK434.out 2; have p435 : 0 ≤ (x15_2 : Int) := of_decide_eq_true (by first | (with_reducible assumption) | assumption); have q435 : x15_2 < (t423.length : Int) := of_decide_eq_true (by first | (with_reducible assumption) | assumption); obtain ⟨ad435, e435, hx435_0, hx435_1, hx435_2⟩ := at_T59 (Kd.R_reads' HO_9.out).2.2 x15_2 p435 q435; cases e435; have hn435_0 : ad435.block ≠ gb434 := Kd.own_blk neY; have hn435_1 : ad435.block ≠ gb434 := Kd.own_blk neY; have hn435_2 : ad435.block ≠ gb434 := Kd.own_blk neY; replace hx435_0 := (cell_far (p := ⟨gb434, 0, none⟩) (by first | (rw [add_block]; exact hn435_0) | (show (Addr.add _ _).block ≠ _; rw [add_block]; exact hn435_0) | exact hn435_0) (.int .i64 ((rd_T59 t428 (ji24)).f0))).trans hx435_0; replace hx435_1 := (cell_far (p := ⟨gb434, 0, none⟩) (by first | (rw [add_block]; exact hn435_0) | (show (Addr.add _ _).block ≠ _; rw [add_block]; exact hn435_0) | exact hn435_0) (.int .i64 ((rd_T59 t428 (ji24)).f0))).trans hx435_1; replace hx435_2 := (cell_far (p := ⟨gb434, 0, none⟩) (by first | (rw [add_block]; exact hn435_0) | (show (Addr.add _ _).block ≠ _; rw [add_block]; exact hn435_0) | exact hn435_0) (.int .i64 ((rd_T59 t428 (ji24)).f0))).trans hx435_2; replace hx435_0 := (cell_far (p := ⟨gb434, 1, none⟩) (by first | (rw [add_block]; exact hn435_1) | (show (Addr.add _ _).block ≠ _; rw [add_block]; exact hn435_1) | exact hn435_1) (.string ((rd_T59 t428 (ji24)).f1))).trans hx435_0; replace hx435_1 := (cell_far (p := ⟨gb434, 1, none⟩) (by first | (rw [add_block]; exact hn435_1) | (show (Addr.add _ _).block ≠ _; rw [add_block]; exact hn435_1) | exact hn435_1) (.string ((rd_T59 t428 (ji24)).f1))).trans hx435_1; replace hx435_2 := (cell_far (p := ⟨gb434, 1, none⟩) (by first | (rw [add_block]; exact hn435_1) | (show (Addr.add _ _).block ≠ _; rw [add_block]; exact hn435_1) | exact hn435_1) (.string ((rd_T59 t428 (ji24)).f1))).trans hx435_2; replace hx435_0 := (cell_far (p := ⟨gb434, 2, none⟩) (by first | (rw [add_block]; exact hn435_2) | (show (Addr.add _ _).block ≠ _; rw [add_block]; exact hn435_2) | exact hn435_2) (.int .i64 ((rd_T59 t428 (ji24)).f2))).trans hx435_0; replace hx435_1 := (cell_far (p := ⟨gb434, 2, none⟩) (by first | (rw [add_block]; exact hn435_2) | (show (Addr.add _ _).block ≠ _; rw [add_block]; exact hn435_2) | exact hn435_2) (.int .i64 ((rd_T59 t428 (ji24)).f2))).trans hx435_1; replace hx435_2 := (cell_far (p := ⟨gb434, 2, none⟩) (by first | (rw [add_block]; exact hn435_2) | (show (Addr.add _ _).block ≠ _; rw [add_block]; exact hn435_2) | exact hn435_2) (.int .i64 ((rd_T59 t428 (ji24)).f2))).trans hx435_2; (try have hy435_0 := fun (n_ : Nat) => (show (((((w34.drewN n_).setCell ⟨gb434, 0, none⟩ (.int .i64 ((rd_T59 t428 (ji24)).f0))).setCell ⟨gb434, 1, none⟩ (.string ((rd_T59 t428 (ji24)).f1))).setCell ⟨gb434, 2, none⟩ (.int .i64 ((rd_T59 t428 (ji24)).f2)))).cell? _ = some _ from hx435_0)); (try have hy435_1 := fun (n_ : Nat) => (show (((((w34.drewN n_).setCell ⟨gb434, 0, none⟩ (.int .i64 ((rd_T59 t428 (ji24)).f0))).setCell ⟨gb434, 1, none⟩ (.string ((rd_T59 t428 (ji24)).f1))).setCell ⟨gb434, 2, none⟩ (.int .i64 ((rd_T59 t428 (ji24)).f2)))).cell? _ = some _ from hx435_1)); (try have hy435_2 := fun (n_ : Nat) => (show (((((w34.drewN n_).setCell ⟨gb434, 0, none⟩ (.int .i64 ((rd_T59 t428 (ji24)).f0))).setCell ⟨gb434, 1, none⟩ (.string ((rd_T59 t428 (ji24)).f1))).setCell ⟨gb434, 2, none⟩ (.int .i64 ((rd_T59 t428 (ji24)).f2)))).cell? _ = some _ from hx435_2)); clear hn435_0; clear hn435_1; clear hn435_2; replace p435 := eq_true p435; replace q435 := eq_true q435; have p436 : 0 ≤ (x15_2 : Int) := of_decide_eq_true (by first | (with_reducible assumption) | assumption); have q436 : x15_2 < (t423.length : Int) := of_decide_eq_true (by first | (with_reducible assumption) | assumption); obtain ⟨ad436, e436, hx436_0, hx436_1, hx436_2⟩ := at_T59 (Kd.R_reads' HO_9.out).2.2 x15_2 p436 q436; obtain rfl : ad435 = ad436 := (by injection e436); have hn436_0 : ad435.block ≠ gb434 := Kd.own_blk neY; have hn436_1 : ad435.block ≠ gb434 := Kd.own_blk neY; have hn436_2 : ad435.block ≠ gb434 := Kd.own_blk neY; replace hx436_0 := (cell_far (p := ⟨gb434, 0, none⟩) (by first | (rw [add_block]; exact hn436_0) | (show (Addr.add _ _).block ≠ _; rw [add_block]; exact hn436_0) | exact hn436_0) (.int .i64 ((rd_T59 t428 (ji24)).f0))).trans hx436_0; replace hx436_1 := (cell_far (p := ⟨gb434, 0, none⟩) (by first | (rw [add_block]; exact hn436_0) | (show (Addr.add _ _).block ≠ _; rw [add_block]; exact hn436_0) | exact hn436_0) (.int .i64 ((rd_T59 t428 (ji24)).f0))).trans hx436_1; replace hx436_2 := (cell_far (p := ⟨gb434, 0, none⟩) (by first | (rw [add_block]; exact hn436_0) | (show (Addr.add _ _).block ≠ _; rw [add_block]; exact hn436_0) | exact hn436_0) (.int .i64 ((rd_T59 t428 (ji24)).f0))).trans hx436_2; replace hx436_0 := (cell_far (p := ⟨gb434, 1, none⟩) (by first | (rw [add_block]; exact hn436_1) | (show (Addr.add _ _).block ≠ _; rw [add_block]; exact hn436_1) | exact hn436_1) (.string ((rd_T59 t428 (ji24)).f1))).trans hx436_0; replace hx436_1 := (cell_far (p := ⟨gb434, 1, none⟩) (by first | (rw [add_block]; exact hn436_1) | (show (Addr.add _ _).block ≠ _; rw [add_block]; exact hn436_1) | exact hn436_1) (.string ((rd_T59 t428 (ji24)).f1))).trans hx436_1; replace hx436_2 := (cell_far (p := ⟨gb434, 1, none⟩) (by first | (rw [add_block]; exact hn436_1) | (show (Addr.add _ _).block ≠ _; rw [add_block]; exact hn436_1) | exact hn436_1) (.string ((rd_T59 t428 (ji24)).f1))).trans hx436_2; replace hx436_0 := (cell_far (p := ⟨gb434, 2, none⟩) (by first | (rw [add_block]; exact hn436_2) | (show (Addr.add _ _).block ≠ _; rw [add_block]; exact hn436_2) | exact hn436_2) (.int .i64 ((rd_T59 t428 (ji24)).f2))).trans hx436_0; replace hx436_1 := (cell_far (p := ⟨gb434, 2, none⟩) (by first | (rw [add_block]; exact hn436_2) | (show (Addr.add _ _).block ≠ _; rw [add_block]; exact hn436_2) | exact hn436_2) (.int .i64 ((rd_T59 t428 (ji24)).f2))).trans hx436_1; replace hx436_2 := (cell_far (p := ⟨gb434, 2, none⟩) (by first | (rw [add_block]; exact hn436_2) | (show (Addr.add _ _).block ≠ _; rw [add_block]; exact hn436_2) | exact hn436_2) (.int .i64 ((rd_T59 t428 (ji24)).f2))).trans hx436_2; (try have hy436_0 := fun (n_ : Nat) => (show (((((w34.drewN n_).setCell ⟨gb434, 0, none⟩ (.int .i64 ((rd_T59 t428 (ji24)).f0))).setCell ⟨gb434, 1, none⟩ (.string ((rd_T59 t428 (ji24)).f1))).setCell ⟨gb434, 2, none⟩ (.int .i64 ((rd_T59 t428 (ji24)).f2)))).cell? _ = some _ from hx436_0)); (try have hy436_1 := fun (n_ : Nat) => (show (((((w34.drewN n_).setCell ⟨gb434, 0, none⟩ (.int .i64 ((rd_T59 t428 (ji24)).f0))).setCell ⟨gb434, 1, none⟩ (.string ((rd_T59 t428 (ji24)).f1))).setCell ⟨gb434, 2, none⟩ (.int .i64 ((rd_T59 t428 (ji24)).f2)))).cell? _ = some _ from hx436_1)); (try have hy436_2 := fun (n_ : Nat) => (show (((((w34.drewN n_).setCell ⟨gb434, 0, none⟩ (.int .i64 ((rd_T59 t428 (ji24)).f0))).setCell ⟨gb434, 1, none⟩ (.string ((rd_T59 t428 (ji24)).f1))).setCell ⟨gb434, 2, none⟩ (.int .i64 ((rd_T59 t428 (ji24)).f2)))).cell? _ = some _ from hx436_2)); clear hn436_0; clear hn436_1; clear hn436_2; replace p436 := eq_true p436; replace q436 := eq_true q436; have p437 : 0 ≤ (x15_2 : Int) := of_decide_eq_true (by first | (with_reducible assumption) | assumption); have q437 : x15_2 < (t423.length : Int) := of_decide_eq_true (by first | (with_reducible assumption) | assumption); obtain ⟨ad437, e437, hx437_0, hx437_1, hx437_2⟩ := at_T59 (Kd.R_reads' HO_9.out).2.2 x15_2 p437 q437; obtain rfl : ad435 = ad437 := (by injection e437); have hn437_0 : ad435.block ≠ gb434 := Kd.own_blk neY; have hn437_1 : ad435.block ≠ gb434 := Kd.own_blk neY; have hn437_2 : ad435.block ≠ gb434 := Kd.own_blk neY; replace hx437_0 := (cell_far (p := ⟨gb434, 0, none⟩) (by first | (rw [add_block]; exact hn437_0) | (show (Addr.add _ _).block ≠ _; rw [add_block]; exact hn437_0) | exact hn437_0) (.int .i64 ((rd_T59 t428 (ji24)).f0))).trans hx437_0; replace hx437_1 := (cell_far (p := ⟨gb434, 0, none⟩) (by first | (rw [add_block]; exact hn437_0) | (show (Addr.add _ _).block ≠ _; rw [add_block]; exact hn437_0) | exact hn437_0) (.int .i64 ((rd_T59 t428 (ji24)).f0))).trans hx437_1; replace hx437_2 := (cell_far (p := ⟨gb434, 0, none⟩) (by first | (rw [add_block]; exact hn437_0) | (show (Addr.add _ _).block ≠ _; rw [add_block]; exact hn437_0) | exact hn437_0) (.int .i64 ((rd_T59 t428 (ji24)).f0))).trans hx437_2; replace hx437_0 := (cell_far (p := ⟨gb434, 1, none⟩) (by first | (rw [add_block]; exact hn437_1) | (show (Addr.add _ _).block ≠ _; rw [add_block]; exact hn437_1) | exact hn437_1) (.string ((rd_T59 t428 (ji24)).f1))).trans hx437_0; replace hx437_1 := (cell_far (p := ⟨gb434, 1, none⟩) (by first | (rw [add_block]; exact hn437_1) | (show (Addr.add _ _).block ≠ _; rw [add_block]; exact hn437_1) | exact hn437_1) (.string ((rd_T59 t428 (ji24)).f1))).trans hx437_1; replace hx437_2 := (cell_far (p := ⟨gb434, 1, none⟩) (by first | (rw [add_block]; exact hn437_1) | (show (Addr.add _ _).block ≠ _; rw [add_block]; exact hn437_1) | exact hn437_1) (.string ((rd_T59 t428 (ji24)).f1))).trans hx437_2; replace hx437_0 := (cell_far (p := ⟨gb434, 2, none⟩) (by first | (rw [add_block]; exact hn437_2) | (show (Addr.add _ _).block ≠ _; rw [add_block]; exact hn437_2) | exact hn437_2) (.int .i64 ((rd_T59 t428 (ji24)).f2))).trans hx437_0; replace hx437_1 := (cell_far (p := ⟨gb434, 2, none⟩) (by first | (rw [add_block]; exact hn437_2) | (show (Addr.add _ _).block ≠ _; rw [add_block]; exact hn437_2) | exact hn437_2) (.int .i64 ((rd_T59 t428 (ji24)).f2))).trans hx437_1; replace hx437_2 := (cell_far (p := ⟨gb434, 2, none⟩) (by first | (rw [add_block]; exact hn437_2) | (show (Addr.add _ _).block ≠ _; rw [add_block]; exact hn437_2) | exact hn437_2) (.int .i64 ((rd_T59 t428 (ji24)).f2))).trans hx437_2; (try have hy437_0 := fun (n_ : Nat) => (show (((((w34.drewN n_).setCell ⟨gb434, 0, none⟩ (.int .i64 ((rd_T59 t428 (ji24)).f0))).setCell ⟨gb434, 1, none⟩ (.string ((rd_T59 t428 (ji24)).f1))).setCell ⟨gb434, 2, none⟩ (.int .i64 ((rd_T59 t428 (ji24)).f2)))).cell? _ = some _ from hx437_0)); (try have hy437_1 := fun (n_ : Nat) => (show (((((w34.drewN n_).setCell ⟨gb434, 0, none⟩ (.int .i64 ((rd_T59 t428 (ji24)).f0))).setCell ⟨gb434, 1, none⟩ (.string ((rd_T59 t428 (ji24)).f1))).setCell ⟨gb434, 2, none⟩ (.int .i64 ((rd_T59 t428 (ji24)).f2)))).cell? _ = some _ from hx437_1)); (try have hy437_2 := fun (n_ : Nat) => (show (((((w34.drewN n_).setCell ⟨gb434, 0, none⟩ (.int .i64 ((rd_T59 t428 (ji24)).f0))).setCell ⟨gb434, 1, none⟩ (.string ((rd_T59 t428 (ji24)).f1))).setCell ⟨gb434, 2, none⟩ (.int .i64 ((rd_T59 t428 (ji24)).f2)))).cell? _ = some _ from hx437_2)); clear hn437_0; clear hn437_1; clear hn437_2; replace p437 := eq_true p437; replace q437 := eq_true q437)))
                  go_roundg k2
                  case measure => have := HJ12.out; have := HK2.out; omega
                  case rel => exact ⟨(wrap64 (x15_2 + 1)), (by first | rfl | (simp; done) | (simp [*]; done)), H', ⟨by have := HJ12.out; have := HK2.out; omega⟩, ⟨by (with_reducible repeat (first | apply Kd.R_alloc | apply Kd.R_drewN | apply Kd.R_drew)); exact Kd.R_mono (Kd.R_far (p := ⟨gb434, 2, none⟩) (Kd.R_far (p := ⟨gb434, 1, none⟩) (Kd.R_far (p := ⟨gb434, 0, none⟩) (Kd.R_mono HO_6.out (fun k_ hk => (⟨hk, hk.2⟩ : _ ∧ k_ ≠ gb434))) (fun _ hk => hk.2) (.int .i64 ((rd_T59 t428 (ji24)).f0))) (fun _ hk => hk.2) (.string ((rd_T59 t428 (ji24)).f1))) (fun _ hk => hk.2) (.int .i64 ((rd_T59 t428 (ji24)).f2))) (fun _ hk => ⟨hk.1.1.1, hk.1.1.2⟩)⟩, ⟨by (with_reducible repeat (first | apply Kd.R_alloc | apply Kd.R_drewN | apply Kd.R_drew)); exact Kd.R_mono (Kd.R_far (p := ⟨gb434, 2, none⟩) (Kd.R_far (p := ⟨gb434, 1, none⟩) (Kd.R_far (p := ⟨gb434, 0, none⟩) (Kd.R_mono HO_9.out (fun k_ hk => (⟨hk, hk.2⟩ : _ ∧ k_ ≠ gb434))) (fun _ hk => hk.2) (.int .i64 ((rd_T59 t428 (ji24)).f0))) (fun _ hk => hk.2) (.string ((rd_T59 t428 (ji24)).f1))) (fun _ hk => hk.2) (.int .i64 ((rd_T59 t428 (ji24)).f2))) (fun _ hk => ⟨hk.1.1.1, hk.1.1.2⟩)⟩, ⟨by (with_reducible repeat (first | apply Kd.R_alloc | apply Kd.R_drewN | apply Kd.R_drew)); exact Kd.R_mono (Kd.R_far (p := ⟨gb434, 2, none⟩) (Kd.R_far (p := ⟨gb434, 1, none⟩) (Kd.R_far (p := ⟨gb434, 0, none⟩) (Kd.R_mono HO_12.out (fun k_ hk => (⟨hk, hk.2⟩ : _ ∧ k_ ≠ gb434))) (fun _ hk => hk.2) (.int .i64 ((rd_T59 t428 (ji24)).f0))) (fun _ hk => hk.2) (.string ((rd_T59 t428 (ji24)).f1))) (fun _ hk => hk.2) (.int .i64 ((rd_T59 t428 (ji24)).f2))) (fun _ hk => ⟨hk.1.1.1, hk.1.1.2⟩)⟩, ⟨by repeat (first | (with_reducible first | exact HB.out | apply lA | apply lN | apply lD | refine below_set ?_ GE434.out) | exact HB.out)⟩⟩
                 ·rw [if_neg c30] at H
                  exact absurd H (by simp)
                ·rw [if_neg c29] at H
                 exact absurd H (by simp)
               ·rw [if_neg c28] at H
                exact absurd H (by simp)
              ·rw [if_neg c27] at H
               exact absurd H (by simp)
             ·rw [if_neg c26] at H
              exact absurd H (by simp)
            ·rw [if_neg c25] at H
             exact absurd H (by simp)
           ·rw [if_neg c23] at H
            have c23b0 : decide (x15_2 < (t423.length : Int)) = false := decide_eq_false c23
            clear c23
            by_cases c36 : t417 = true
            ·subst c36
             have H1 : (if 0 ≤ (t418.length : Int) then (if (t418.length : Int) ≤ (t428.length : Int) then ((reredosref07_Toks.f k2 (t428.take ((t418.length : Int) : Int).toNat) t418).bind fun t442 => (some t442)) else (none)) else (none)) = some r := by rw [if_pos rfl] at H; exact H
             clear H
             have H := H1
             clear H1
             by_cases c37 : 0 ≤ (t418.length : Int)
             ·rw [if_pos c37] at H
              have c37b0 := eq_true c37
              have c37b1 : decide (0 ≤ (t418.length : Int)) = true := decide_eq_true c37
              clear c37
              by_cases c38 : (t418.length : Int) ≤ (t428.length : Int)
              ·rw [if_pos c38] at H
               have c38b0 := eq_true c38
               have c38b1 : decide ((t418.length : Int) ≤ (t428.length : Int)) = true := decide_eq_true c38
               clear c38
               obtain ⟨y438, hy438⟩ : ∃ y_ : List (S59), y_ = (t428.take ((t418.length : Int) : Int).toNat) := ⟨_, rfl⟩
               replace H : ((reredosref07_Toks.f k2 y438 t418).bind fun t442 => (some t442)) = some r := by first | (rw [hy438]; with_reducible exact H) | (have H2_ := (Option.bind_some _ _).symm.trans H; rw [hy438]; with_reducible exact H2_) | (have H2_ := (Option.bind_some _ _).symm.trans H; with_reducible exact H2_) | with_reducible exact H | (rw [hy438]; exact H) | exact H
               have Ny438 := am hy438
               clear hy438
               replace H := Option.bind_eq_some_iff.mp H
               obtain ⟨t442, A390, H⟩ := H
               replace H : (some t442) = some r := H
               have A39 := am A390
               clear A390
               obtain rfl := Option.some.inj H
               obtain ⟨Ao40, co40, eo40⟩ := Kd.R_slice HO_9.out
               subst eo40
               obtain ⟨Ao41, co41, eo41⟩ := Kd.R_slice HO_6.out
               subst eo41
               obtain ⟨Ao43, co43, eo43⟩ := Kd.R_slice HO_12.out
               subst eo43
               have q42 : ((t418.length : Int) : Int) ≤ ((t428.length : Int) : Int) := of_decide_eq_true (by first | (with_reducible assumption) | assumption)
               obtain ⟨i042, hi042, _, hsz42, _⟩ := info_parts info59
               have hroom42 : t428.length ≤ co43 := (Kd.R_reads' HO_12.out).2.1
               have hC42 : Kd.C k59 _ Ao43 t428.length t428 := (Kd.R_reads' HO_12.out).2.2
               have hcut42 := cut_to (P := Try.prog) 55 59 .i64 Try.underlying55 hi042 Ao43 t428.length co43 (t418.length : Int) (of_decide_eq_true (by first | (with_reducible assumption) | assumption)) q42 hroom42
               have hr42 := Kd.C_take (m := ((t418.length : Int) : Int).toNat) hC42 (by omega)
               have hy42 : y438.length = ((t418.length : Int) : Int).toNat := (by rw [Ny438.out, List.length_take]; omega)
               rw [← Ny438.out] at hr42
               rw [← hy42] at hcut42
               have HR441 := am hr42
               have HC441 := am (show y438.length ≤ co43 from by omega)
               clear hr42 hC42 hroom42 hi042 hsz42
               have KY42 := am hy42
               clear hy42
               have KL42 := am (show ((t418.length : Int) : Int).toNat ≤ t428.length from by omega)
               replace q42 := eq_true q42
               go_wp2_with (first | (go_at_call 31; (with_reducible refine (reredosref07_Toks.calls k2 _ _ y438 _ _ t418 t442 _ ?side1 ?side2 ?side3 ?side4 A39.out).mono ?_); (case side1 => repeat (first | exact (by repeat (first | (with_reducible exact HR441.out) | (with_reducible refine Kd.C_alloc ?_ _) | (with_reducible refine Kd.C_drewN ?_ _) | (with_reducible refine Kd.C_drew ?_) | exact HR441.out)) | (with_reducible refine Kd.C_alloc ?_ _) | (with_reducible refine Kd.C_drewN ?_ _) | (with_reducible refine Kd.C_drew ?_))); (case side2 => exact HC441.out); (case side3 => repeat (first | exact (Kd.R_reads' HO_6.out).2.2 | (with_reducible refine Kd.C_alloc ?_ _) | (with_reducible refine Kd.C_drewN ?_ _) | (with_reducible refine Kd.C_drew ?_))); (case side4 => exact (Kd.R_reads' HO_6.out).2.1); rintro e w' ⟨rfl, ⟨nd, rfl⟩⟩; (try first | exact ⟨rfl, _, World.drewN_drewN _ _ _⟩ | exact ⟨rfl, _, Eq.trans (World.drewN_drewN _ _ _) (congrArg (World.drewN _) (Nat.add_assoc _ _ _))⟩)))
               repeat (go_quiet (first | (go_at_call 31; (with_reducible refine (reredosref07_Toks.calls k2 _ _ y438 _ _ t418 t442 _ ?side1 ?side2 ?side3 ?side4 A39.out).mono ?_); (case side1 => repeat (first | exact (by repeat (first | (with_reducible exact HR441.out) | (with_reducible refine Kd.C_alloc ?_ _) | (with_reducible refine Kd.C_drewN ?_ _) | (with_reducible refine Kd.C_drew ?_) | exact HR441.out)) | (with_reducible refine Kd.C_alloc ?_ _) | (with_reducible refine Kd.C_drewN ?_ _) | (with_reducible refine Kd.C_drew ?_))); (case side2 => exact HC441.out); (case side3 => repeat (first | exact (Kd.R_reads' HO_6.out).2.2 | (with_reducible refine Kd.C_alloc ?_ _) | (with_reducible refine Kd.C_drewN ?_ _) | (with_reducible refine Kd.C_drew ?_))); (case side4 => exact (Kd.R_reads' HO_6.out).2.1); rintro e w' ⟨rfl, ⟨nd, rfl⟩⟩; (try first | exact ⟨rfl, _, World.drewN_drewN _ _ _⟩ | exact ⟨rfl, _, Eq.trans (World.drewN_drewN _ _ _) (congrArg (World.drewN _) (Nat.add_assoc _ _ _))⟩))); try go_wp2_with (first | (go_at_call 31; (with_reducible refine (reredosref07_Toks.calls k2 _ _ y438 _ _ t418 t442 _ ?side1 ?side2 ?side3 ?side4 A39.out).mono ?_); (case side1 => repeat (first | exact (by repeat (first | (with_reducible exact HR441.out) | (with_reducible refine Kd.C_alloc ?_ _) | (with_reducible refine Kd.C_drewN ?_ _) | (with_reducible refine Kd.C_drew ?_) | exact HR441.out)) | (with_reducible refine Kd.C_alloc ?_ _) | (with_reducible refine Kd.C_drewN ?_ _) | (with_reducible refine Kd.C_drew ?_))); (case side2 => exact HC441.out); (case side3 => repeat (first | exact (Kd.R_reads' HO_6.out).2.2 | (with_reducible refine Kd.C_alloc ?_ _) | (with_reducible refine Kd.C_drewN ?_ _) | (with_reducible refine Kd.C_drew ?_))); (case side4 => exact (Kd.R_reads' HO_6.out).2.1); rintro e w' ⟨rfl, ⟨nd, rfl⟩⟩; (try first | exact ⟨rfl, _, World.drewN_drewN _ _ _⟩ | exact ⟨rfl, _, Eq.trans (World.drewN_drewN _ _ _) (congrArg (World.drewN _) (Nat.add_assoc _ _ _))⟩))))
               go_ret
               exact ⟨by first | rfl | (simp [errW_none, errW_some] <;> rfl) | (simp [*, errW_none, errW_some] <;> rfl), by repeat (first | (with_reducible first | exact HB.out | apply lA | apply lN | apply lD) | exact HB.out)⟩
              ·rw [if_neg c38] at H
               exact absurd H (by simp)
             ·rw [if_neg c37] at H
              exact absurd H (by simp)
            ·replace c36 := Bool.eq_false_iff.mpr c36
             subst c36
             have H1 : (none) = some r := by rw [if_neg (show ¬ (false = true) by decide)] at H; exact H
             clear H
             have H := H1
             clear H1
             exact absurd H (by simp)
     ·rw [if_neg c12] at H
      have c12b0 : (t425 == 0) = false := beq_eq_false_iff_ne.mpr c12
      have c12b1 : (t425 != 0) = true := bne_iff_ne.mpr c12
      by_cases c44 : t417 = true
      ·subst c44
       have H1 : (if t430 = 2 then (some (t429 == (wrap64 ((wrap64 (t424 + (a0.size : Int))) + 1)))) else (none)) = some r := by rw [if_pos rfl] at H; exact H
       clear H
       have H := H1
       clear H1
       by_cases c45 : t430 = 2
       ·rw [if_pos c45] at H
        have c45b0 : (t430 == 2) = true := beq_iff_eq.mpr c45
        have c45b1 : (t430 != 2) = false := bne_eq_false_iff_eq.mpr c45
        clear c45
        obtain rfl := Option.some.inj H
        go_enter Try.func9, Try.ntmps9
        go_wp2_with (first | (go_at_call 29; (with_reducible refine (reredoslaw07_shown.calls k  true _ A3.out).mono ?_); rintro e w46 ⟨rfl, hb⟩; have n0_ := am (below_step (by repeat (first | (with_reducible first | exact HB.out | apply lA | apply lN | apply lD) | exact HB.out)) hb); clear HB; have HB := n0_; clear n0_; (try clear hb); (try clear hb2); (try clear hk); (try clear hi)) | (go_at_call 30; (with_reducible refine (lex_Lex.calls k a0 t418 t419 t420 _ A6.out).mono ?_); rintro e w47 ⟨v421, rfl, ho0, hb⟩; have n0_ := am (Kd.R_lower ho0 (below_size (by repeat (first | (with_reducible first | exact HB.out | apply lA | apply lN | apply lD) | exact HB.out)))); have n1_ := am (below_step (by repeat (first | (with_reducible first | exact HB.out | apply lA | apply lN | apply lD) | exact HB.out)) hb); clear HB; have HO422 := n0_; have HB := n1_; clear n0_ n1_; (try clear hb); (try clear hb2); (try clear hk); (try clear hi); (try clear ho0)) | (go_at_call 30; (with_reducible refine (lex_Lex.calls k a1 t423 t424 t425 _ A7.out).mono ?_); rintro e w48 ⟨v426, rfl, ho0, hb⟩; have n0_ := am (Kd.R_elder' (by (with_reducible repeat (first | apply Kd.R_alloc | apply Kd.R_drewN | apply Kd.R_drew)); exact HO422.out) (Kd.R_base ho0) hb); have n1_ := am (Kd.R_lower (Kd.R_new' ho0 (Kd.R_lt (by (with_reducible repeat (first | apply Kd.R_alloc | apply Kd.R_drewN | apply Kd.R_drew)); exact HO422.out))) (below_size (by repeat (first | (with_reducible first | exact HB.out | apply lA | apply lN | apply lD) | exact HB.out)))); have n2_ := am (below_step (by repeat (first | (with_reducible first | exact HB.out | apply lA | apply lN | apply lD) | exact HB.out)) hb); clear HO422; clear HB; have HO422 := n0_; have HO427 := n1_; have HB := n2_; clear n0_ n1_ n2_; (try clear hb); (try clear hb2); (try clear hk); (try clear hi); (try clear ho0)) | (go_at_call 30; (with_reducible refine (lex_Lex.calls k ((a0 ++ (⟨#[32]⟩ : ByteArray)) ++ a1) t428 t429 t430 _ A10.out).mono ?_); rintro e w49 ⟨v431, rfl, ho0, hb⟩; have n0_ := am (Kd.R_elder' (by (with_reducible repeat (first | apply Kd.R_alloc | apply Kd.R_drewN | apply Kd.R_drew)); exact HO422.out) (Kd.R_base ho0) hb); have n1_ := am (Kd.R_elder' (by (with_reducible repeat (first | apply Kd.R_alloc | apply Kd.R_drewN | apply Kd.R_drew)); exact HO427.out) (Kd.R_base ho0) hb); have n2_ := am (Kd.R_lower (Kd.R_new' (Kd.R_new' ho0 (Kd.R_lt (by (with_reducible repeat (first | apply Kd.R_alloc | apply Kd.R_drewN | apply Kd.R_drew)); exact HO422.out))) (Kd.R_lt (by (with_reducible repeat (first | apply Kd.R_alloc | apply Kd.R_drewN | apply Kd.R_drew)); exact HO427.out))) (below_size (by repeat (first | (with_reducible first | exact HB.out | apply lA | apply lN | apply lD) | exact HB.out)))); have n3_ := am (below_step (by repeat (first | (with_reducible first | exact HB.out | apply lA | apply lN | apply lD) | exact HB.out)) hb); clear HO422; clear HO427; clear HB; have HO422 := n0_; have HO427 := n1_; have HO432 := n2_; have HB := n3_; clear n0_ n1_ n2_ n3_; (try clear hb); (try clear hb2); (try clear hk); (try clear hi); (try clear ho0)))
        repeat (go_quiet (first | (go_at_call 29; (with_reducible refine (reredoslaw07_shown.calls k  true _ A3.out).mono ?_); rintro e w46 ⟨rfl, hb⟩; have n0_ := am (below_step (by repeat (first | (with_reducible first | exact HB.out | apply lA | apply lN | apply lD) | exact HB.out)) hb); clear HB; have HB := n0_; clear n0_; (try clear hb); (try clear hb2); (try clear hk); (try clear hi)) | (go_at_call 30; (with_reducible refine (lex_Lex.calls k a0 t418 t419 t420 _ A6.out).mono ?_); rintro e w47 ⟨v421, rfl, ho0, hb⟩; have n0_ := am (Kd.R_lower ho0 (below_size (by repeat (first | (with_reducible first | exact HB.out | apply lA | apply lN | apply lD) | exact HB.out)))); have n1_ := am (below_step (by repeat (first | (with_reducible first | exact HB.out | apply lA | apply lN | apply lD) | exact HB.out)) hb); clear HB; have HO422 := n0_; have HB := n1_; clear n0_ n1_; (try clear hb); (try clear hb2); (try clear hk); (try clear hi); (try clear ho0)) | (go_at_call 30; (with_reducible refine (lex_Lex.calls k a1 t423 t424 t425 _ A7.out).mono ?_); rintro e w48 ⟨v426, rfl, ho0, hb⟩; have n0_ := am (Kd.R_elder' (by (with_reducible repeat (first | apply Kd.R_alloc | apply Kd.R_drewN | apply Kd.R_drew)); exact HO422.out) (Kd.R_base ho0) hb); have n1_ := am (Kd.R_lower (Kd.R_new' ho0 (Kd.R_lt (by (with_reducible repeat (first | apply Kd.R_alloc | apply Kd.R_drewN | apply Kd.R_drew)); exact HO422.out))) (below_size (by repeat (first | (with_reducible first | exact HB.out | apply lA | apply lN | apply lD) | exact HB.out)))); have n2_ := am (below_step (by repeat (first | (with_reducible first | exact HB.out | apply lA | apply lN | apply lD) | exact HB.out)) hb); clear HO422; clear HB; have HO422 := n0_; have HO427 := n1_; have HB := n2_; clear n0_ n1_ n2_; (try clear hb); (try clear hb2); (try clear hk); (try clear hi); (try clear ho0)) | (go_at_call 30; (with_reducible refine (lex_Lex.calls k ((a0 ++ (⟨#[32]⟩ : ByteArray)) ++ a1) t428 t429 t430 _ A10.out).mono ?_); rintro e w49 ⟨v431, rfl, ho0, hb⟩; have n0_ := am (Kd.R_elder' (by (with_reducible repeat (first | apply Kd.R_alloc | apply Kd.R_drewN | apply Kd.R_drew)); exact HO422.out) (Kd.R_base ho0) hb); have n1_ := am (Kd.R_elder' (by (with_reducible repeat (first | apply Kd.R_alloc | apply Kd.R_drewN | apply Kd.R_drew)); exact HO427.out) (Kd.R_base ho0) hb); have n2_ := am (Kd.R_lower (Kd.R_new' (Kd.R_new' ho0 (Kd.R_lt (by (with_reducible repeat (first | apply Kd.R_alloc | apply Kd.R_drewN | apply Kd.R_drew)); exact HO422.out))) (Kd.R_lt (by (with_reducible repeat (first | apply Kd.R_alloc | apply Kd.R_drewN | apply Kd.R_drew)); exact HO427.out))) (below_size (by repeat (first | (with_reducible first | exact HB.out | apply lA | apply lN | apply lD) | exact HB.out)))); have n3_ := am (below_step (by repeat (first | (with_reducible first | exact HB.out | apply lA | apply lN | apply lD) | exact HB.out)) hb); clear HO422; clear HO427; clear HB; have HO422 := n0_; have HO427 := n1_; have HO432 := n2_; have HB := n3_; clear n0_ n1_ n2_ n3_; (try clear hb); (try clear hb2); (try clear hk); (try clear hi); (try clear ho0))); try go_wp2_with (first | (go_at_call 29; (with_reducible refine (reredoslaw07_shown.calls k  true _ A3.out).mono ?_); rintro e w46 ⟨rfl, hb⟩; have n0_ := am (below_step (by repeat (first | (with_reducible first | exact HB.out | apply lA | apply lN | apply lD) | exact HB.out)) hb); clear HB; have HB := n0_; clear n0_; (try clear hb); (try clear hb2); (try clear hk); (try clear hi)) | (go_at_call 30; (with_reducible refine (lex_Lex.calls k a0 t418 t419 t420 _ A6.out).mono ?_); rintro e w47 ⟨v421, rfl, ho0, hb⟩; have n0_ := am (Kd.R_lower ho0 (below_size (by repeat (first | (with_reducible first | exact HB.out | apply lA | apply lN | apply lD) | exact HB.out)))); have n1_ := am (below_step (by repeat (first | (with_reducible first | exact HB.out | apply lA | apply lN | apply lD) | exact HB.out)) hb); clear HB; have HO422 := n0_; have HB := n1_; clear n0_ n1_; (try clear hb); (try clear hb2); (try clear hk); (try clear hi); (try clear ho0)) | (go_at_call 30; (with_reducible refine (lex_Lex.calls k a1 t423 t424 t425 _ A7.out).mono ?_); rintro e w48 ⟨v426, rfl, ho0, hb⟩; have n0_ := am (Kd.R_elder' (by (with_reducible repeat (first | apply Kd.R_alloc | apply Kd.R_drewN | apply Kd.R_drew)); exact HO422.out) (Kd.R_base ho0) hb); have n1_ := am (Kd.R_lower (Kd.R_new' ho0 (Kd.R_lt (by (with_reducible repeat (first | apply Kd.R_alloc | apply Kd.R_drewN | apply Kd.R_drew)); exact HO422.out))) (below_size (by repeat (first | (with_reducible first | exact HB.out | apply lA | apply lN | apply lD) | exact HB.out)))); have n2_ := am (below_step (by repeat (first | (with_reducible first | exact HB.out | apply lA | apply lN | apply lD) | exact HB.out)) hb); clear HO422; clear HB; have HO422 := n0_; have HO427 := n1_; have HB := n2_; clear n0_ n1_ n2_; (try clear hb); (try clear hb2); (try clear hk); (try clear hi); (try clear ho0)) | (go_at_call 30; (with_reducible refine (lex_Lex.calls k ((a0 ++ (⟨#[32]⟩ : ByteArray)) ++ a1) t428 t429 t430 _ A10.out).mono ?_); rintro e w49 ⟨v431, rfl, ho0, hb⟩; have n0_ := am (Kd.R_elder' (by (with_reducible repeat (first | apply Kd.R_alloc | apply Kd.R_drewN | apply Kd.R_drew)); exact HO422.out) (Kd.R_base ho0) hb); have n1_ := am (Kd.R_elder' (by (with_reducible repeat (first | apply Kd.R_alloc | apply Kd.R_drewN | apply Kd.R_drew)); exact HO427.out) (Kd.R_base ho0) hb); have n2_ := am (Kd.R_lower (Kd.R_new' (Kd.R_new' ho0 (Kd.R_lt (by (with_reducible repeat (first | apply Kd.R_alloc | apply Kd.R_drewN | apply Kd.R_drew)); exact HO422.out))) (Kd.R_lt (by (with_reducible repeat (first | apply Kd.R_alloc | apply Kd.R_drewN | apply Kd.R_drew)); exact HO427.out))) (below_size (by repeat (first | (with_reducible first | exact HB.out | apply lA | apply lN | apply lD) | exact HB.out)))); have n3_ := am (below_step (by repeat (first | (with_reducible first | exact HB.out | apply lA | apply lN | apply lD) | exact HB.out)) hb); clear HO422; clear HO427; clear HB; have HO422 := n0_; have HO427 := n1_; have HO432 := n2_; have HB := n3_; clear n0_ n1_ n2_ n3_; (try clear hb); (try clear hb2); (try clear hk); (try clear hi); (try clear ho0))))
        go_ret
        exact ⟨by first | rfl | (simp [errW_none, errW_some] <;> rfl) | (simp [*, errW_none, errW_some] <;> rfl), by repeat (first | (with_reducible first | exact HB.out | apply lA | apply lN | apply lD) | exact HB.out)⟩
       ·rw [if_neg c45] at H
        exact absurd H (by simp)
      ·replace c44 := Bool.eq_false_iff.mpr c44
       subst c44
       have H1 : (none) = some r := by rw [if_neg (show ¬ (false = true) by decide)] at H; exact H
       clear H
       have H := H1
       clear H1
       exact absurd H (by simp)
    ·rw [if_neg c11] at H
     have c11b0 : (t420 == 0) = false := beq_eq_false_iff_ne.mpr c11
     have c11b1 : (t420 != 0) = true := bne_iff_ne.mpr c11
     by_cases c50 : t417 = true
     ·subst c50
      have H1 : (some (t430 == 2)) = some r := by rw [if_pos rfl] at H; exact H
      clear H
      have H := H1
      clear H1
      obtain rfl := Option.some.inj H
      go_enter Try.func9, Try.ntmps9
      go_wp2_with (first | (go_at_call 29; (with_reducible refine (reredoslaw07_shown.calls k  true _ A3.out).mono ?_); rintro e w51 ⟨rfl, hb⟩; have n0_ := am (below_step (by repeat (first | (with_reducible first | exact HB.out | apply lA | apply lN | apply lD) | exact HB.out)) hb); clear HB; have HB := n0_; clear n0_; (try clear hb); (try clear hb2); (try clear hk); (try clear hi)) | (go_at_call 30; (with_reducible refine (lex_Lex.calls k a0 t418 t419 t420 _ A6.out).mono ?_); rintro e w52 ⟨v421, rfl, ho0, hb⟩; have n0_ := am (Kd.R_lower ho0 (below_size (by repeat (first | (with_reducible first | exact HB.out | apply lA | apply lN | apply lD) | exact HB.out)))); have n1_ := am (below_step (by repeat (first | (with_reducible first | exact HB.out | apply lA | apply lN | apply lD) | exact HB.out)) hb); clear HB; have HO422 := n0_; have HB := n1_; clear n0_ n1_; (try clear hb); (try clear hb2); (try clear hk); (try clear hi); (try clear ho0)) | (go_at_call 30; (with_reducible refine (lex_Lex.calls k a1 t423 t424 t425 _ A7.out).mono ?_); rintro e w53 ⟨v426, rfl, ho0, hb⟩; have n0_ := am (Kd.R_elder' (by (with_reducible repeat (first | apply Kd.R_alloc | apply Kd.R_drewN | apply Kd.R_drew)); exact HO422.out) (Kd.R_base ho0) hb); have n1_ := am (Kd.R_lower (Kd.R_new' ho0 (Kd.R_lt (by (with_reducible repeat (first | apply Kd.R_alloc | apply Kd.R_drewN | apply Kd.R_drew)); exact HO422.out))) (below_size (by repeat (first | (with_reducible first | exact HB.out | apply lA | apply lN | apply lD) | exact HB.out)))); have n2_ := am (below_step (by repeat (first | (with_reducible first | exact HB.out | apply lA | apply lN | apply lD) | exact HB.out)) hb); clear HO422; clear HB; have HO422 := n0_; have HO427 := n1_; have HB := n2_; clear n0_ n1_ n2_; (try clear hb); (try clear hb2); (try clear hk); (try clear hi); (try clear ho0)) | (go_at_call 30; (with_reducible refine (lex_Lex.calls k ((a0 ++ (⟨#[32]⟩ : ByteArray)) ++ a1) t428 t429 t430 _ A10.out).mono ?_); rintro e w54 ⟨v431, rfl, ho0, hb⟩; have n0_ := am (Kd.R_elder' (by (with_reducible repeat (first | apply Kd.R_alloc | apply Kd.R_drewN | apply Kd.R_drew)); exact HO422.out) (Kd.R_base ho0) hb); have n1_ := am (Kd.R_elder' (by (with_reducible repeat (first | apply Kd.R_alloc | apply Kd.R_drewN | apply Kd.R_drew)); exact HO427.out) (Kd.R_base ho0) hb); have n2_ := am (Kd.R_lower (Kd.R_new' (Kd.R_new' ho0 (Kd.R_lt (by (with_reducible repeat (first | apply Kd.R_alloc | apply Kd.R_drewN | apply Kd.R_drew)); exact HO422.out))) (Kd.R_lt (by (with_reducible repeat (first | apply Kd.R_alloc | apply Kd.R_drewN | apply Kd.R_drew)); exact HO427.out))) (below_size (by repeat (first | (with_reducible first | exact HB.out | apply lA | apply lN | apply lD) | exact HB.out)))); have n3_ := am (below_step (by repeat (first | (with_reducible first | exact HB.out | apply lA | apply lN | apply lD) | exact HB.out)) hb); clear HO422; clear HO427; clear HB; have HO422 := n0_; have HO427 := n1_; have HO432 := n2_; have HB := n3_; clear n0_ n1_ n2_ n3_; (try clear hb); (try clear hb2); (try clear hk); (try clear hi); (try clear ho0)))
      repeat (go_quiet (first | (go_at_call 29; (with_reducible refine (reredoslaw07_shown.calls k  true _ A3.out).mono ?_); rintro e w51 ⟨rfl, hb⟩; have n0_ := am (below_step (by repeat (first | (with_reducible first | exact HB.out | apply lA | apply lN | apply lD) | exact HB.out)) hb); clear HB; have HB := n0_; clear n0_; (try clear hb); (try clear hb2); (try clear hk); (try clear hi)) | (go_at_call 30; (with_reducible refine (lex_Lex.calls k a0 t418 t419 t420 _ A6.out).mono ?_); rintro e w52 ⟨v421, rfl, ho0, hb⟩; have n0_ := am (Kd.R_lower ho0 (below_size (by repeat (first | (with_reducible first | exact HB.out | apply lA | apply lN | apply lD) | exact HB.out)))); have n1_ := am (below_step (by repeat (first | (with_reducible first | exact HB.out | apply lA | apply lN | apply lD) | exact HB.out)) hb); clear HB; have HO422 := n0_; have HB := n1_; clear n0_ n1_; (try clear hb); (try clear hb2); (try clear hk); (try clear hi); (try clear ho0)) | (go_at_call 30; (with_reducible refine (lex_Lex.calls k a1 t423 t424 t425 _ A7.out).mono ?_); rintro e w53 ⟨v426, rfl, ho0, hb⟩; have n0_ := am (Kd.R_elder' (by (with_reducible repeat (first | apply Kd.R_alloc | apply Kd.R_drewN | apply Kd.R_drew)); exact HO422.out) (Kd.R_base ho0) hb); have n1_ := am (Kd.R_lower (Kd.R_new' ho0 (Kd.R_lt (by (with_reducible repeat (first | apply Kd.R_alloc | apply Kd.R_drewN | apply Kd.R_drew)); exact HO422.out))) (below_size (by repeat (first | (with_reducible first | exact HB.out | apply lA | apply lN | apply lD) | exact HB.out)))); have n2_ := am (below_step (by repeat (first | (with_reducible first | exact HB.out | apply lA | apply lN | apply lD) | exact HB.out)) hb); clear HO422; clear HB; have HO422 := n0_; have HO427 := n1_; have HB := n2_; clear n0_ n1_ n2_; (try clear hb); (try clear hb2); (try clear hk); (try clear hi); (try clear ho0)) | (go_at_call 30; (with_reducible refine (lex_Lex.calls k ((a0 ++ (⟨#[32]⟩ : ByteArray)) ++ a1) t428 t429 t430 _ A10.out).mono ?_); rintro e w54 ⟨v431, rfl, ho0, hb⟩; have n0_ := am (Kd.R_elder' (by (with_reducible repeat (first | apply Kd.R_alloc | apply Kd.R_drewN | apply Kd.R_drew)); exact HO422.out) (Kd.R_base ho0) hb); have n1_ := am (Kd.R_elder' (by (with_reducible repeat (first | apply Kd.R_alloc | apply Kd.R_drewN | apply Kd.R_drew)); exact HO427.out) (Kd.R_base ho0) hb); have n2_ := am (Kd.R_lower (Kd.R_new' (Kd.R_new' ho0 (Kd.R_lt (by (with_reducible repeat (first | apply Kd.R_alloc | apply Kd.R_drewN | apply Kd.R_drew)); exact HO422.out))) (Kd.R_lt (by (with_reducible repeat (first | apply Kd.R_alloc | apply Kd.R_drewN | apply Kd.R_drew)); exact HO427.out))) (below_size (by repeat (first | (with_reducible first | exact HB.out | apply lA | apply lN | apply lD) | exact HB.out)))); have n3_ := am (below_step (by repeat (first | (with_reducible first | exact HB.out | apply lA | apply lN | apply lD) | exact HB.out)) hb); clear HO422; clear HO427; clear HB; have HO422 := n0_; have HO427 := n1_; have HO432 := n2_; have HB := n3_; clear n0_ n1_ n2_ n3_; (try clear hb); (try clear hb2); (try clear hk); (try clear hi); (try clear ho0))); try go_wp2_with (first | (go_at_call 29; (with_reducible refine (reredoslaw07_shown.calls k  true _ A3.out).mono ?_); rintro e w51 ⟨rfl, hb⟩; have n0_ := am (below_step (by repeat (first | (with_reducible first | exact HB.out | apply lA | apply lN | apply lD) | exact HB.out)) hb); clear HB; have HB := n0_; clear n0_; (try clear hb); (try clear hb2); (try clear hk); (try clear hi)) | (go_at_call 30; (with_reducible refine (lex_Lex.calls k a0 t418 t419 t420 _ A6.out).mono ?_); rintro e w52 ⟨v421, rfl, ho0, hb⟩; have n0_ := am (Kd.R_lower ho0 (below_size (by repeat (first | (with_reducible first | exact HB.out | apply lA | apply lN | apply lD) | exact HB.out)))); have n1_ := am (below_step (by repeat (first | (with_reducible first | exact HB.out | apply lA | apply lN | apply lD) | exact HB.out)) hb); clear HB; have HO422 := n0_; have HB := n1_; clear n0_ n1_; (try clear hb); (try clear hb2); (try clear hk); (try clear hi); (try clear ho0)) | (go_at_call 30; (with_reducible refine (lex_Lex.calls k a1 t423 t424 t425 _ A7.out).mono ?_); rintro e w53 ⟨v426, rfl, ho0, hb⟩; have n0_ := am (Kd.R_elder' (by (with_reducible repeat (first | apply Kd.R_alloc | apply Kd.R_drewN | apply Kd.R_drew)); exact HO422.out) (Kd.R_base ho0) hb); have n1_ := am (Kd.R_lower (Kd.R_new' ho0 (Kd.R_lt (by (with_reducible repeat (first | apply Kd.R_alloc | apply Kd.R_drewN | apply Kd.R_drew)); exact HO422.out))) (below_size (by repeat (first | (with_reducible first | exact HB.out | apply lA | apply lN | apply lD) | exact HB.out)))); have n2_ := am (below_step (by repeat (first | (with_reducible first | exact HB.out | apply lA | apply lN | apply lD) | exact HB.out)) hb); clear HO422; clear HB; have HO422 := n0_; have HO427 := n1_; have HB := n2_; clear n0_ n1_ n2_; (try clear hb); (try clear hb2); (try clear hk); (try clear hi); (try clear ho0)) | (go_at_call 30; (with_reducible refine (lex_Lex.calls k ((a0 ++ (⟨#[32]⟩ : ByteArray)) ++ a1) t428 t429 t430 _ A10.out).mono ?_); rintro e w54 ⟨v431, rfl, ho0, hb⟩; have n0_ := am (Kd.R_elder' (by (with_reducible repeat (first | apply Kd.R_alloc | apply Kd.R_drewN | apply Kd.R_drew)); exact HO422.out) (Kd.R_base ho0) hb); have n1_ := am (Kd.R_elder' (by (with_reducible repeat (first | apply Kd.R_alloc | apply Kd.R_drewN | apply Kd.R_drew)); exact HO427.out) (Kd.R_base ho0) hb); have n2_ := am (Kd.R_lower (Kd.R_new' (Kd.R_new' ho0 (Kd.R_lt (by (with_reducible repeat (first | apply Kd.R_alloc | apply Kd.R_drewN | apply Kd.R_drew)); exact HO422.out))) (Kd.R_lt (by (with_reducible repeat (first | apply Kd.R_alloc | apply Kd.R_drewN | apply Kd.R_drew)); exact HO427.out))) (below_size (by repeat (first | (with_reducible first | exact HB.out | apply lA | apply lN | apply lD) | exact HB.out)))); have n3_ := am (below_step (by repeat (first | (with_reducible first | exact HB.out | apply lA | apply lN | apply lD) | exact HB.out)) hb); clear HO422; clear HO427; clear HB; have HO422 := n0_; have HO427 := n1_; have HO432 := n2_; have HB := n3_; clear n0_ n1_ n2_ n3_; (try clear hb); (try clear hb2); (try clear hk); (try clear hi); (try clear ho0))))
      go_ret
      exact ⟨by first | rfl | (simp [errW_none, errW_some] <;> rfl) | (simp [*, errW_none, errW_some] <;> rfl), by repeat (first | (with_reducible first | exact HB.out | apply lA | apply lN | apply lD) | exact HB.out)⟩
     ·replace c50 := Bool.eq_false_iff.mpr c50
      subst c50
      have H1 : (none) = some r := by rw [if_neg (show ¬ (false = true) by decide)] at H; exact H
      clear H
      have H := H1
      clear H1
      exact absurd H (by simp)
   ·rw [if_neg c9] at H
    exact absurd H (by simp)
  ·rw [if_neg c8] at H
   exact absurd H (by simp)

/-- What is left to show of reredoslaw07_LexBlanks: of numbers and lists alone. -/
def reredoslaw07_LexBlanks.Pure : Prop := ∀ (a0 : ByteArray) (a1 : ByteArray), (a0.size ≤ 140737488351232) → (a1.size ≤ 140737488351232) → ∃ k, reredoslaw07_LexBlanks.f k a0 a1 = some true

/-! ### lex_Literal: function 32 -/
def lex_Literal.f (a0 : ByteArray) : Option (ByteArray × Bool) := (num_May.f a0).bind fun t443 => (if t443 = true then ((strings_TrimPrefix.f a0 (⟨#[45]⟩ : ByteArray)).bind fun t444 => (if t444.toList = a0.toList then (some (a0, true)) else (if 1 + t444.size ≤ 9223372036854775807 then (some ((⟨#[95]⟩ : ByteArray) ++ t444, true)) else (none)))) else (some ((⟨#[]⟩ : ByteArray), false)))
set_option maxHeartbeats 8000000 in
set_option maxRecDepth 100000 in
theorem lex_Literal.calls (a0 : ByteArray) (r1 : ByteArray) (r2 : Bool) (w : World) (h : lex_Literal.f a0 = some (r1, r2)) :
  Calls Try.prog 32 #[.string a0] w fun e w' => e = .returned (.tuple #[.string r1, .bool r2]) ∧ Below w.heap.size w w' := by
 have HB := am (Below.refl w.heap.size w)
 have H : ((num_May.f a0).bind fun t443 => (if t443 = true then ((strings_TrimPrefix.f a0 (⟨#[45]⟩ : ByteArray)).bind fun t444 => (if t444.toList = a0.toList then (some (a0, true)) else (if 1 + t444.size ≤ 9223372036854775807 then (some ((⟨#[95]⟩ : ByteArray) ++ t444, true)) else (none)))) else (some ((⟨#[]⟩ : ByteArray), false)))) = some (r1, r2) := h
 clear h
 replace H := Option.bind_eq_some_iff.mp H
 obtain ⟨t443, A20, H⟩ := H
 replace H : (if t443 = true then ((strings_TrimPrefix.f a0 (⟨#[45]⟩ : ByteArray)).bind fun t444 => (if t444.toList = a0.toList then (some (a0, true)) else (if 1 + t444.size ≤ 9223372036854775807 then (some ((⟨#[95]⟩ : ByteArray) ++ t444, true)) else (none)))) else (some ((⟨#[]⟩ : ByteArray), false))) = some (r1, r2) := H
 have A2 := am A20
 clear A20
 by_cases c3 : t443 = true
 ·subst c3
  have H1 : ((strings_TrimPrefix.f a0 (⟨#[45]⟩ : ByteArray)).bind fun t444 => (if t444.toList = a0.toList then (some (a0, true)) else (if 1 + t444.size ≤ 9223372036854775807 then (some ((⟨#[95]⟩ : ByteArray) ++ t444, true)) else (none)))) = some (r1, r2) := by rw [if_pos rfl] at H; exact H
  clear H
  have H := H1
  clear H1
  replace H := Option.bind_eq_some_iff.mp H
  obtain ⟨t444, A40, H⟩ := H
  replace H : (if t444.toList = a0.toList then (some (a0, true)) else (if 1 + t444.size ≤ 9223372036854775807 then (some ((⟨#[95]⟩ : ByteArray) ++ t444, true)) else (none))) = some (r1, r2) := H
  have A4 := am A40
  clear A40
  by_cases c5 : t444.toList = a0.toList
  ·rw [if_pos c5] at H
   have c5b0 : (t444.toList == a0.toList) = true := beq_iff_eq.mpr c5
   have c5b1 : (t444.toList != a0.toList) = false := bne_eq_false_iff_eq.mpr c5
   clear c5
   simp only [Option.some.injEq, Prod.mk.injEq] at H
   obtain ⟨rfl, rfl⟩ := H
   go_enter Try.func32, Try.ntmps32
   go_wp2_with (first | ((with_reducible refine gate_callee (f := 33) rfl ?_); refine goesL_ (some 6) rfl rfl Try.func33 (by kernel_rfl) rfl #[.string a0] rfl (by (try simp only [List.map_toArray, List.map_cons, List.map_nil]); first | done | rfl | (simp only [List.length_drop, List.length_take]; rfl)) ?_; (with_reducible refine (num_May.calls a0 true _ A2.out).mono ?_); rintro e w6 ⟨rfl, hb⟩; refine ⟨_, rfl, ?_⟩; have n0_ := am (below_step (by repeat (first | (with_reducible first | exact HB.out | apply lA | apply lN | apply lD) | exact HB.out)) hb); clear HB; have HB := n0_; clear n0_; (try clear hb); (try clear hb2); (try clear hk); (try clear hi)) | ((with_reducible refine gate_callee (f := 47) rfl ?_); refine goesL_ (some 9) rfl rfl Try.func47 (by kernel_rfl) rfl #[.string a0, .string (⟨#[45]⟩ : ByteArray)] rfl (by (try simp only [List.map_toArray, List.map_cons, List.map_nil]); first | done | rfl | (simp only [List.length_drop, List.length_take]; rfl)) ?_; (with_reducible refine (strings_TrimPrefix.calls a0 (⟨#[45]⟩ : ByteArray) t444 _ A4.out).mono ?_); rintro e w' ⟨rfl, ⟨nd, rfl⟩⟩; refine ⟨_, rfl, ?_⟩))
   go_ret2
   exact ⟨by first | rfl | (simp [errW_none, errW_some] <;> rfl) | (simp [*, errW_none, errW_some] <;> rfl), by repeat (first | (with_reducible first | exact HB.out | apply lA | apply lN | apply lD) | exact HB.out)⟩
  ·rw [if_neg c5] at H
   have c5b0 : (t444.toList == a0.toList) = false := beq_eq_false_iff_ne.mpr c5
   have c5b1 : (t444.toList != a0.toList) = true := bne_iff_ne.mpr c5
   by_cases c7 : 1 + t444.size ≤ 9223372036854775807
   ·rw [if_pos c7] at H
    have c7b0 := eq_true c7
    have c7b1 : decide (1 + t444.size ≤ 9223372036854775807) = true := decide_eq_true c7
    try have c7b2 : (9223372036854775807 < 1 + t444.size) = False := eq_false (Nat.not_lt.2 c7)
    simp only [Option.some.injEq, Prod.mk.injEq] at H
    obtain ⟨rfl, rfl⟩ := H
    go_enter Try.func32, Try.ntmps32
    go_wp2_with (first | ((with_reducible refine gate_callee (f := 33) rfl ?_); refine goesL_ (some 6) rfl rfl Try.func33 (by kernel_rfl) rfl #[.string a0] rfl (by (try simp only [List.map_toArray, List.map_cons, List.map_nil]); first | done | rfl | (simp only [List.length_drop, List.length_take]; rfl)) ?_; (with_reducible refine (num_May.calls a0 true _ A2.out).mono ?_); rintro e w8 ⟨rfl, hb⟩; refine ⟨_, rfl, ?_⟩; have n0_ := am (below_step (by repeat (first | (with_reducible first | exact HB.out | apply lA | apply lN | apply lD) | exact HB.out)) hb); clear HB; have HB := n0_; clear n0_; (try clear hb); (try clear hb2); (try clear hk); (try clear hi)) | ((with_reducible refine gate_callee (f := 47) rfl ?_); refine goesL_ (some 9) rfl rfl Try.func47 (by kernel_rfl) rfl #[.string a0, .string (⟨#[45]⟩ : ByteArray)] rfl (by (try simp only [List.map_toArray, List.map_cons, List.map_nil]); first | done | rfl | (simp only [List.length_drop, List.length_take]; rfl)) ?_; (with_reducible refine (strings_TrimPrefix.calls a0 (⟨#[45]⟩ : ByteArray) t444 _ A4.out).mono ?_); rintro e w' ⟨rfl, ⟨nd, rfl⟩⟩; refine ⟨_, rfl, ?_⟩))
    go_ret2
    exact ⟨by first | rfl | (simp [errW_none, errW_some] <;> rfl) | (simp [*, errW_none, errW_some] <;> rfl), by repeat (first | (with_reducible first | exact HB.out | apply lA | apply lN | apply lD) | exact HB.out)⟩
   ·rw [if_neg c7] at H
    exact absurd H (by simp)
 ·replace c3 := Bool.eq_false_iff.mpr c3
  subst c3
  have H1 : (some ((⟨#[]⟩ : ByteArray), false)) = some (r1, r2) := by rw [if_neg (show ¬ (false = true) by decide)] at H; exact H
  clear H
  have H := H1
  clear H1
  simp only [Option.some.injEq, Prod.mk.injEq] at H
  obtain ⟨rfl, rfl⟩ := H
  go_enter Try.func32, Try.ntmps32
  go_wp2_with (first | ((with_reducible refine gate_callee (f := 33) rfl ?_); refine goesL_ (some 6) rfl rfl Try.func33 (by kernel_rfl) rfl #[.string a0] rfl (by (try simp only [List.map_toArray, List.map_cons, List.map_nil]); first | done | rfl | (simp only [List.length_drop, List.length_take]; rfl)) ?_; (with_reducible refine (num_May.calls a0 false _ A2.out).mono ?_); rintro e w9 ⟨rfl, hb⟩; refine ⟨_, rfl, ?_⟩; have n0_ := am (below_step (by repeat (first | (with_reducible first | exact HB.out | apply lA | apply lN | apply lD) | exact HB.out)) hb); clear HB; have HB := n0_; clear n0_; (try clear hb); (try clear hb2); (try clear hk); (try clear hi)))
  go_ret2
  exact ⟨by first | rfl | (simp [errW_none, errW_some] <;> rfl) | (simp [*, errW_none, errW_some] <;> rfl), by repeat (first | (with_reducible first | exact HB.out | apply lA | apply lN | apply lD) | exact HB.out)⟩

/-! ### reredoslaw07_LexBack: function 10 -/
def reredoslaw07_LexBack.f (k : Nat) (a0 : ByteArray) : Option (Bool) := (reredoslaw07_shown.f k).bind fun t445 => (if (a0.size : Int) > 200 then (some t445) else ((lex_Literal.f a0).bind fun bt446 => ((num_May.f a0).bind fun t448 => (if t448 = true then ((lex_Number.f k bt446.1).bind fun bt449 => (if 1 + bt446.1.size ≤ 9223372036854775807 then ((lex_Lex.f k ((⟨#[32]⟩ : ByteArray) ++ bt446.1)).bind fun bt451 => (if t445 = true then (if bt446.2 = true then (if bt449.2 = true then (if bt449.1.toList = a0.toList then (if bt451.2.2 = 0 then (if (bt451.1.length : Int) = 1 then (if 0 < (bt451.1.length : Int) then (some (((rd_T59 bt451.1 0).f0) == 1 && ((((rd_T59 bt451.1 0).f1).toList) == bt446.1.toList && (((rd_T59 bt451.1 0).f2) == 1)))) else (none)) else (none)) else (none)) else (none)) else (none)) else (none)) else (none))) else (none))) else (if t445 = true then (if bt446.2 = true then (none) else (some (bt446.1.toList == ([] : List UInt8)))) else (none))))))
theorem reredoslaw07_LexBack.mono : ∀ a0 k, LeO (reredoslaw07_LexBack.f k a0) (reredoslaw07_LexBack.f (k + 1) a0) := by
 intro a0 k
 unfold reredoslaw07_LexBack.f
 repeat' first
   | (with_reducible exact lex_Lex.mono _ _)
   | (with_reducible exact lex_Number.mono _ _)
   | (with_reducible exact reredoslaw07_shown.mono _)
   | (with_reducible exact LeO.refl _)
   | (with_reducible exact LeO.none _)
   | (with_reducible refine LeO.ite ?_ ?_)
   | (with_reducible refine LeO.bind ?_ (fun _ => ?_))
   | exact lex_Lex.mono _ _
   | exact lex_Number.mono _ _
   | exact reredoslaw07_shown.mono _
   | exact LeO.none _
   | refine LeO.ite ?_ ?_
   | refine LeO.bind ?_ (fun _ => ?_)
set_option maxHeartbeats 8000000 in
set_option maxRecDepth 100000 in
theorem reredoslaw07_LexBack.calls (k : Nat) (a0 : ByteArray) (r : Bool) (w : World) (h : reredoslaw07_LexBack.f k a0 = some r) :
  Calls Try.prog 10 #[.string a0] w fun e w' => e = .returned (.bool r) ∧ Below w.heap.size w w' := by
 have hu59 := Try.underlying59
 have HB := am (Below.refl w.heap.size w)
 have H : ((reredoslaw07_shown.f k).bind fun t445 => (if (a0.size : Int) > 200 then (some t445) else ((lex_Literal.f a0).bind fun bt446 => ((num_May.f a0).bind fun t448 => (if t448 = true then ((lex_Number.f k bt446.1).bind fun bt449 => (if 1 + bt446.1.size ≤ 9223372036854775807 then ((lex_Lex.f k ((⟨#[32]⟩ : ByteArray) ++ bt446.1)).bind fun bt451 => (if t445 = true then (if bt446.2 = true then (if bt449.2 = true then (if bt449.1.toList = a0.toList then (if bt451.2.2 = 0 then (if (bt451.1.length : Int) = 1 then (if 0 < (bt451.1.length : Int) then (some (((rd_T59 bt451.1 0).f0) == 1 && ((((rd_T59 bt451.1 0).f1).toList) == bt446.1.toList && (((rd_T59 bt451.1 0).f2) == 1)))) else (none)) else (none)) else (none)) else (none)) else (none)) else (none)) else (none))) else (none))) else (if t445 = true then (if bt446.2 = true then (none) else (some (bt446.1.toList == ([] : List UInt8)))) else (none))))))) = some r := h
 clear h
 replace H := Option.bind_eq_some_iff.mp H
 obtain ⟨t445, A20, H⟩ := H
 replace H : (if (a0.size : Int) > 200 then (some t445) else ((lex_Literal.f a0).bind fun bt446 => ((num_May.f a0).bind fun t448 => (if t448 = true then ((lex_Number.f k bt446.1).bind fun bt449 => (if 1 + bt446.1.size ≤ 9223372036854775807 then ((lex_Lex.f k ((⟨#[32]⟩ : ByteArray) ++ bt446.1)).bind fun bt451 => (if t445 = true then (if bt446.2 = true then (if bt449.2 = true then (if bt449.1.toList = a0.toList then (if bt451.2.2 = 0 then (if (bt451.1.length : Int) = 1 then (if 0 < (bt451.1.length : Int) then (some (((rd_T59 bt451.1 0).f0) == 1 && ((((rd_T59 bt451.1 0).f1).toList) == bt446.1.toList && (((rd_T59 bt451.1 0).f2) == 1)))) else (none)) else (none)) else (none)) else (none)) else (none)) else (none)) else (none))) else (none))) else (if t445 = true then (if bt446.2 = true then (none) else (some (bt446.1.toList == ([] : List UInt8)))) else (none)))))) = some r := H
 have A2 := am A20
 clear A20
 by_cases c3 : (a0.size : Int) > 200
 ·rw [if_pos c3] at H
  have c3b0 : decide (200 < (a0.size : Int)) = true := decide_eq_true c3
  have c3b1 : decide (200 < a0.size) = true := decide_eq_true (by omega)
  clear c3
  obtain rfl := Option.some.inj H
  go_enter Try.func10, Try.ntmps10
  go_wp2_with (first | ((with_reducible refine gate_callee (f := 29) rfl ?_); refine goesL_ (some 11) rfl rfl Try.func29 (by kernel_rfl) rfl #[] rfl (by (try simp only [List.map_toArray, List.map_cons, List.map_nil]); first | done | rfl | (simp only [List.length_drop, List.length_take]; rfl)) ?_; (with_reducible refine (reredoslaw07_shown.calls k  t445 _ A2.out).mono ?_); rintro e w4 ⟨rfl, hb⟩; refine ⟨_, rfl, ?_⟩; have n0_ := am (below_step (by repeat (first | (with_reducible first | exact HB.out | apply lA | apply lN | apply lD) | exact HB.out)) hb); clear HB; have HB := n0_; clear n0_; (try clear hb); (try clear hb2); (try clear hk); (try clear hi)))
  go_ret
  exact ⟨by first | rfl | (simp [errW_none, errW_some] <;> rfl) | (simp [*, errW_none, errW_some] <;> rfl), by repeat (first | (with_reducible first | exact HB.out | apply lA | apply lN | apply lD) | exact HB.out)⟩
 ·rw [if_neg c3] at H
  have c3b0 : decide (200 < (a0.size : Int)) = false := decide_eq_false c3
  have c3b1 : decide (200 < a0.size) = false := decide_eq_false (by omega)
  clear c3
  replace H := Option.bind_eq_some_iff.mp H
  obtain ⟨⟨t446, t447⟩, A50, H⟩ := H
  replace H : ((num_May.f a0).bind fun t448 => (if t448 = true then ((lex_Number.f k t446).bind fun bt449 => (if 1 + t446.size ≤ 9223372036854775807 then ((lex_Lex.f k ((⟨#[32]⟩ : ByteArray) ++ t446)).bind fun bt451 => (if t445 = true then (if t447 = true then (if bt449.2 = true then (if bt449.1.toList = a0.toList then (if bt451.2.2 = 0 then (if (bt451.1.length : Int) = 1 then (if 0 < (bt451.1.length : Int) then (some (((rd_T59 bt451.1 0).f0) == 1 && ((((rd_T59 bt451.1 0).f1).toList) == t446.toList && (((rd_T59 bt451.1 0).f2) == 1)))) else (none)) else (none)) else (none)) else (none)) else (none)) else (none)) else (none))) else (none))) else (if t445 = true then (if t447 = true then (none) else (some (t446.toList == ([] : List UInt8)))) else (none)))) = some r := H
  have A5 := am A50
  clear A50
  replace H := Option.bind_eq_some_iff.mp H
  obtain ⟨t448, A60, H⟩ := H
  replace H : (if t448 = true then ((lex_Number.f k t446).bind fun bt449 => (if 1 + t446.size ≤ 9223372036854775807 then ((lex_Lex.f k ((⟨#[32]⟩ : ByteArray) ++ t446)).bind fun bt451 => (if t445 = true then (if t447 = true then (if bt449.2 = true then (if bt449.1.toList = a0.toList then (if bt451.2.2 = 0 then (if (bt451.1.length : Int) = 1 then (if 0 < (bt451.1.length : Int) then (some (((rd_T59 bt451.1 0).f0) == 1 && ((((rd_T59 bt451.1 0).f1).toList) == t446.toList && (((rd_T59 bt451.1 0).f2) == 1)))) else (none)) else (none)) else (none)) else (none)) else (none)) else (none)) else (none))) else (none))) else (if t445 = true then (if t447 = true then (none) else (some (t446.toList == ([] : List UInt8)))) else (none))) = some r := H
  have A6 := am A60
  clear A60
  by_cases c7 : t448 = true
  ·subst c7
   have H1 : ((lex_Number.f k t446).bind fun bt449 => (if 1 + t446.size ≤ 9223372036854775807 then ((lex_Lex.f k ((⟨#[32]⟩ : ByteArray) ++ t446)).bind fun bt451 => (if t445 = true then (if t447 = true then (if bt449.2 = true then (if bt449.1.toList = a0.toList then (if bt451.2.2 = 0 then (if (bt451.1.length : Int) = 1 then (if 0 < (bt451.1.length : Int) then (some (((rd_T59 bt451.1 0).f0) == 1 && ((((rd_T59 bt451.1 0).f1).toList) == t446.toList && (((rd_T59 bt451.1 0).f2) == 1)))) else (none)) else (none)) else (none)) else (none)) else (none)) else (none)) else (none))) else (none))) = some r := by rw [if_pos rfl] at H; exact H
   clear H
   have H := H1
   clear H1
   replace H := Option.bind_eq_some_iff.mp H
   obtain ⟨⟨t449, t450⟩, A80, H⟩ := H
   replace H : (if 1 + t446.size ≤ 9223372036854775807 then ((lex_Lex.f k ((⟨#[32]⟩ : ByteArray) ++ t446)).bind fun bt451 => (if t445 = true then (if t447 = true then (if t450 = true then (if t449.toList = a0.toList then (if bt451.2.2 = 0 then (if (bt451.1.length : Int) = 1 then (if 0 < (bt451.1.length : Int) then (some (((rd_T59 bt451.1 0).f0) == 1 && ((((rd_T59 bt451.1 0).f1).toList) == t446.toList && (((rd_T59 bt451.1 0).f2) == 1)))) else (none)) else (none)) else (none)) else (none)) else (none)) else (none)) else (none))) else (none)) = some r := H
   have A8 := am A80
   clear A80
   by_cases c9 : 1 + t446.size ≤ 9223372036854775807
   ·rw [if_pos c9] at H
    have c9b0 := eq_true c9
    have c9b1 : decide (1 + t446.size ≤ 9223372036854775807) = true := decide_eq_true c9
    try have c9b2 : (9223372036854775807 < 1 + t446.size) = False := eq_false (Nat.not_lt.2 c9)
    replace H := Option.bind_eq_some_iff.mp H
    obtain ⟨⟨t451, t452, t453⟩, A100, H⟩ := H
    replace H : (if t445 = true then (if t447 = true then (if t450 = true then (if t449.toList = a0.toList then (if t453 = 0 then (if (t451.length : Int) = 1 then (if 0 < (t451.length : Int) then (some (((rd_T59 t451 0).f0) == 1 && ((((rd_T59 t451 0).f1).toList) == t446.toList && (((rd_T59 t451 0).f2) == 1)))) else (none)) else (none)) else (none)) else (none)) else (none)) else (none)) else (none)) = some r := H
    have A10 := am A100
    clear A100
    by_cases c11 : t445 = true
    ·subst c11
     have H1 : (if t447 = true then (if t450 = true then (if t449.toList = a0.toList then (if t453 = 0 then (if (t451.length : Int) = 1 then (if 0 < (t451.length : Int) then (some (((rd_T59 t451 0).f0) == 1 && ((((rd_T59 t451 0).f1).toList) == t446.toList && (((rd_T59 t451 0).f2) == 1)))) else (none)) else (none)) else (none)) else (none)) else (none)) else (none)) = some r := by rw [if_pos rfl] at H; exact H
     clear H
     have H := H1
     clear H1
     by_cases c12 : t447 = true
     ·subst c12
      have H1 : (if t450 = true then (if t449.toList = a0.toList then (if t453 = 0 then (if (t451.length : Int) = 1 then (if 0 < (t451.length : Int) then (some (((rd_T59 t451 0).f0) == 1 && ((((rd_T59 t451 0).f1).toList) == t446.toList && (((rd_T59 t451 0).f2) == 1)))) else (none)) else (none)) else (none)) else (none)) else (none)) = some r := by rw [if_pos rfl] at H; exact H
      clear H
      have H := H1
      clear H1
      by_cases c13 : t450 = true
      ·subst c13
       have H1 : (if t449.toList = a0.toList then (if t453 = 0 then (if (t451.length : Int) = 1 then (if 0 < (t451.length : Int) then (some (((rd_T59 t451 0).f0) == 1 && ((((rd_T59 t451 0).f1).toList) == t446.toList && (((rd_T59 t451 0).f2) == 1)))) else (none)) else (none)) else (none)) else (none)) = some r := by rw [if_pos rfl] at H; exact H
       clear H
       have H := H1
       clear H1
       by_cases c14 : t449.toList = a0.toList
       ·rw [if_pos c14] at H
        have c14b0 : (t449.toList == a0.toList) = true := beq_iff_eq.mpr c14
        have c14b1 : (t449.toList != a0.toList) = false := bne_eq_false_iff_eq.mpr c14
        clear c14
        by_cases c15 : t453 = 0
        ·rw [if_pos c15] at H
         have c15b0 : (t453 == 0) = true := beq_iff_eq.mpr c15
         have c15b1 : (t453 != 0) = false := bne_eq_false_iff_eq.mpr c15
         clear c15
         by_cases c16 : (t451.length : Int) = 1
         ·rw [if_pos c16] at H
          have c16b0 : ((t451.length : Int) == 1) = true := beq_iff_eq.mpr c16
          have c16b1 : ((t451.length : Int) != 1) = false := bne_eq_false_iff_eq.mpr c16
          clear c16
          by_cases c17 : 0 < (t451.length : Int)
          ·rw [if_pos c17] at H
           have c17b0 : decide (0 < (t451.length : Int)) = true := decide_eq_true c17
           have c17b1 : decide (0 < t451.length) = true := decide_eq_true (by omega)
           clear c17
           obtain rfl := Option.some.inj H
           go_enter Try.func10, Try.ntmps10
           go_wp2_with (first | ((with_reducible refine gate_callee (f := 29) rfl ?_); refine goesL_ (some 11) rfl rfl Try.func29 (by kernel_rfl) rfl #[] rfl (by (try simp only [List.map_toArray, List.map_cons, List.map_nil]); first | done | rfl | (simp only [List.length_drop, List.length_take]; rfl)) ?_; (with_reducible refine (reredoslaw07_shown.calls k  true _ A2.out).mono ?_); rintro e w18 ⟨rfl, hb⟩; refine ⟨_, rfl, ?_⟩; have n0_ := am (below_step (by repeat (first | (with_reducible first | exact HB.out | apply lA | apply lN | apply lD) | exact HB.out)) hb); clear HB; have HB := n0_; clear n0_; (try clear hb); (try clear hb2); (try clear hk); (try clear hi)) | ((with_reducible refine gate_callee (f := 32) rfl ?_); refine goesL_ (some 18) rfl rfl Try.func32 (by kernel_rfl) rfl #[.string a0] rfl (by (try simp only [List.map_toArray, List.map_cons, List.map_nil]); first | done | rfl | (simp only [List.length_drop, List.length_take]; rfl)) ?_; (with_reducible refine (lex_Literal.calls a0 t446 true _ A5.out).mono ?_); rintro e w19 ⟨rfl, hb⟩; refine ⟨_, rfl, ?_⟩; have n0_ := am (below_step (by repeat (first | (with_reducible first | exact HB.out | apply lA | apply lN | apply lD) | exact HB.out)) hb); clear HB; have HB := n0_; clear n0_; (try clear hb); (try clear hb2); (try clear hk); (try clear hi)) | ((with_reducible refine gate_callee (f := 33) rfl ?_); refine goesL_ (some 22) rfl rfl Try.func33 (by kernel_rfl) rfl #[.string a0] rfl (by (try simp only [List.map_toArray, List.map_cons, List.map_nil]); first | done | rfl | (simp only [List.length_drop, List.length_take]; rfl)) ?_; (with_reducible refine (num_May.calls a0 true _ A6.out).mono ?_); rintro e w20 ⟨rfl, hb⟩; refine ⟨_, rfl, ?_⟩; have n0_ := am (below_step (by repeat (first | (with_reducible first | exact HB.out | apply lA | apply lN | apply lD) | exact HB.out)) hb); clear HB; have HB := n0_; clear n0_; (try clear hb); (try clear hb2); (try clear hk); (try clear hi)) | ((with_reducible refine gate_callee (f := 34) rfl ?_); refine goesL_ (some 35) rfl rfl Try.func34 (by kernel_rfl) rfl #[.string t446] rfl (by (try simp only [List.map_toArray, List.map_cons, List.map_nil]); first | done | rfl | (simp only [List.length_drop, List.length_take]; rfl)) ?_; (with_reducible refine (lex_Number.calls k t446 t449 true _ A8.out).mono ?_); rintro e w21 ⟨rfl, hb⟩; refine ⟨_, rfl, ?_⟩; have n0_ := am (below_step (by repeat (first | (with_reducible first | exact HB.out | apply lA | apply lN | apply lD) | exact HB.out)) hb); clear HB; have HB := n0_; clear n0_; (try clear hb); (try clear hb2); (try clear hk); (try clear hi)) | ((with_reducible refine gate_callee (f := 30) rfl ?_); refine goesL_ (some 41) rfl rfl Try.func30 (by kernel_rfl) rfl #[.string ((⟨#[32]⟩ : ByteArray) ++ t446)] rfl (by (try simp only [List.map_toArray, List.map_cons, List.map_nil]); first | done | rfl | (simp only [List.length_drop, List.length_take]; rfl)) ?_; (with_reducible refine (lex_Lex.calls k ((⟨#[32]⟩ : ByteArray) ++ t446) t451 t452 t453 _ A10.out).mono ?_); rintro e w22 ⟨v454, rfl, ho0, hb⟩; refine ⟨_, rfl, ?_⟩; have n0_ := am (Kd.R_lower ho0 (below_size (by repeat (first | (with_reducible first | exact HB.out | apply lA | apply lN | apply lD) | exact HB.out)))); have n1_ := am (below_step (by repeat (first | (with_reducible first | exact HB.out | apply lA | apply lN | apply lD) | exact HB.out)) hb); clear HB; have HO455 := n0_; have HB := n1_; clear n0_ n1_; (try clear hb); (try clear hb2); (try clear hk); (try clear hi); (try clear ho0); obtain ⟨Ao23, co23, eo23⟩ := Kd.R_slice HO455.out; subst eo23; have p456 : 0 ≤ (0 : Int) := (by omega); have q456 : 0 < (t451.length : Int) := of_decide_eq_true (by first | (with_reducible assumption) | assumption); obtain ⟨ad456, e456, hx456_0, hx456_1, hx456_2⟩ := at_T59 (Kd.R_reads' HO455.out).2.2 0 p456 q456; cases e456; have qi456 : (0 < t451.length) = True := eq_true (by omega); (try rw [show ((0 : Int)).toNat = 0 from rfl] at hx456_0); (try rw [show 0 * 3 = 0 from rfl] at hx456_0); (try rw [Addr.add_zero'] at hx456_0); (try rw [show ((0 : Int)).toNat = 0 from rfl] at hx456_1); (try rw [show 0 * 3 = 0 from rfl] at hx456_1); (try rw [Addr.add_zero'] at hx456_1); (try rw [show ((0 : Int)).toNat = 0 from rfl] at hx456_2); (try rw [show 0 * 3 = 0 from rfl] at hx456_2); (try rw [Addr.add_zero'] at hx456_2); replace p456 := eq_true p456; replace q456 := eq_true q456))
           go_ret
           exact ⟨by first | rfl | (simp [errW_none, errW_some] <;> rfl) | (simp [*, errW_none, errW_some] <;> rfl), by repeat (first | (with_reducible first | exact HB.out | apply lA | apply lN | apply lD) | exact HB.out)⟩
          ·rw [if_neg c17] at H
           exact absurd H (by simp)
         ·rw [if_neg c16] at H
          exact absurd H (by simp)
        ·rw [if_neg c15] at H
         exact absurd H (by simp)
       ·rw [if_neg c14] at H
        exact absurd H (by simp)
      ·replace c13 := Bool.eq_false_iff.mpr c13
       subst c13
       have H1 : (none) = some r := by rw [if_neg (show ¬ (false = true) by decide)] at H; exact H
       clear H
       have H := H1
       clear H1
       exact absurd H (by simp)
     ·replace c12 := Bool.eq_false_iff.mpr c12
      subst c12
      have H1 : (none) = some r := by rw [if_neg (show ¬ (false = true) by decide)] at H; exact H
      clear H
      have H := H1
      clear H1
      exact absurd H (by simp)
    ·replace c11 := Bool.eq_false_iff.mpr c11
     subst c11
     have H1 : (none) = some r := by rw [if_neg (show ¬ (false = true) by decide)] at H; exact H
     clear H
     have H := H1
     clear H1
     exact absurd H (by simp)
   ·rw [if_neg c9] at H
    exact absurd H (by simp)
  ·replace c7 := Bool.eq_false_iff.mpr c7
   subst c7
   have H1 : (if t445 = true then (if t447 = true then (none) else (some (t446.toList == ([] : List UInt8)))) else (none)) = some r := by rw [if_neg (show ¬ (false = true) by decide)] at H; exact H
   clear H
   have H := H1
   clear H1
   by_cases c24 : t445 = true
   ·subst c24
    have H1 : (if t447 = true then (none) else (some (t446.toList == ([] : List UInt8)))) = some r := by rw [if_pos rfl] at H; exact H
    clear H
    have H := H1
    clear H1
    by_cases c25 : t447 = true
    ·subst c25
     have H1 : (none) = some r := by rw [if_pos rfl] at H; exact H
     clear H
     have H := H1
     clear H1
     exact absurd H (by simp)
    ·replace c25 := Bool.eq_false_iff.mpr c25
     subst c25
     have H1 : (some (t446.toList == ([] : List UInt8))) = some r := by rw [if_neg (show ¬ (false = true) by decide)] at H; exact H
     clear H
     have H := H1
     clear H1
     obtain rfl := Option.some.inj H
     go_enter Try.func10, Try.ntmps10
     go_wp2_with (first | ((with_reducible refine gate_callee (f := 29) rfl ?_); refine goesL_ (some 11) rfl rfl Try.func29 (by kernel_rfl) rfl #[] rfl (by (try simp only [List.map_toArray, List.map_cons, List.map_nil]); first | done | rfl | (simp only [List.length_drop, List.length_take]; rfl)) ?_; (with_reducible refine (reredoslaw07_shown.calls k  true _ A2.out).mono ?_); rintro e w26 ⟨rfl, hb⟩; refine ⟨_, rfl, ?_⟩; have n0_ := am (below_step (by repeat (first | (with_reducible first | exact HB.out | apply lA | apply lN | apply lD) | exact HB.out)) hb); clear HB; have HB := n0_; clear n0_; (try clear hb); (try clear hb2); (try clear hk); (try clear hi)) | ((with_reducible refine gate_callee (f := 32) rfl ?_); refine goesL_ (some 18) rfl rfl Try.func32 (by kernel_rfl) rfl #[.string a0] rfl (by (try simp only [List.map_toArray, List.map_cons, List.map_nil]); first | done | rfl | (simp only [List.length_drop, List.length_take]; rfl)) ?_; (with_reducible refine (lex_Literal.calls a0 t446 false _ A5.out).mono ?_); rintro e w27 ⟨rfl, hb⟩; refine ⟨_, rfl, ?_⟩; have n0_ := am (below_step (by repeat (first | (with_reducible first | exact HB.out | apply lA | apply lN | apply lD) | exact HB.out)) hb); clear HB; have HB := n0_; clear n0_; (try clear hb); (try clear hb2); (try clear hk); (try clear hi)) | ((with_reducible refine gate_callee (f := 33) rfl ?_); refine goesL_ (some 22) rfl rfl Try.func33 (by kernel_rfl) rfl #[.string a0] rfl (by (try simp only [List.map_toArray, List.map_cons, List.map_nil]); first | done | rfl | (simp only [List.length_drop, List.length_take]; rfl)) ?_; (with_reducible refine (num_May.calls a0 false _ A6.out).mono ?_); rintro e w28 ⟨rfl, hb⟩; refine ⟨_, rfl, ?_⟩; have n0_ := am (below_step (by repeat (first | (with_reducible first | exact HB.out | apply lA | apply lN | apply lD) | exact HB.out)) hb); clear HB; have HB := n0_; clear n0_; (try clear hb); (try clear hb2); (try clear hk); (try clear hi)))
     go_ret
     exact ⟨by first | rfl | (simp [errW_none, errW_some] <;> rfl) | (simp [*, errW_none, errW_some] <;> rfl), by repeat (first | (with_reducible first | exact HB.out | apply lA | apply lN | apply lD) | exact HB.out)⟩
   ·replace c24 := Bool.eq_false_iff.mpr c24
    subst c24
    have H1 : (none) = some r := by rw [if_neg (show ¬ (false = true) by decide)] at H; exact H
    clear H
    have H := H1
    clear H1
    exact absurd H (by simp)

/-- What is left to show of reredoslaw07_LexBack: of numbers and lists alone. -/
def reredoslaw07_LexBack.Pure : Prop := ∀ (a0 : ByteArray), (a0.size ≤ 140737488351232) → ∃ k, reredoslaw07_LexBack.f k a0 = some true

-- proved by hand: function 52 (strings_Join)

end Go.Proofs.Ytphonhplgholmaa.P
