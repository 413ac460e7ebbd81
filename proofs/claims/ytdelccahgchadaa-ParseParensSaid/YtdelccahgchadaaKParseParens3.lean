/- What the law ParseParens rests on, part 4. -/
import Derived.Test.YtdelccahgchadaaKParseParens2
import Derived.Lib.IndexBytes
set_option linter.unusedVariables false
set_option linter.unusedSimpArgs false
section
namespace Go.Proofs.Ytdelccahgchadaa.P
open Go.RowKit Go.Proofs.YtdelccahgchadaaW.PrintWords Go.Proofs.YtdelccahgchadaaW.PrintLast Go.Proofs.YtdelccahgchadaaW.PrintMore
attribute [local go_sem] max2_int min2_int max_two min_two max_three min_three max_four min_four   
set_option linter.unusedVariables false
set_option linter.unusedSimpArgs false
def lex_small.f (a0 : Int) : Option (Bool) := if a0 ≥ 97 then (some (decide (a0 ≤ 122))) else (some false)
set_option maxHeartbeats 8000000 in
set_option maxRecDepth 100000 in
theorem lex_small.calls (a0 : Int) (r : Bool) (w : World) (h : lex_small.f a0 = some r) :
  Calls Try.prog 84 #[.int .u8 a0] w fun e w' => e = .returned (.bool r) ∧ Drawn0 w w' := by
 have H : (if a0 ≥ 97 then (some (decide (a0 ≤ 122))) else (some false)) = some r := h
 clear h
 by_cases c2 : a0 ≥ 97
 ·rw [if_pos c2] at H
  have c2b0 : decide (97 ≤ a0) = true := decide_eq_true c2
  clear c2
  obtain rfl := Option.some.inj H
  go_enter Try.func84, Try.ntmps84
  go_wp2
  go_ret
  exact ⟨yS, by repeat (first | exact Drawn0.refl _ | apply Drawn0.step)⟩
 ·rw [if_neg c2] at H
  have c2b0 : decide (97 ≤ a0) = false := decide_eq_false c2
  clear c2
  obtain rfl := Option.some.inj H
  go_enter Try.func84, Try.ntmps84
  go_wp2
  go_ret
  exact ⟨yS, by repeat (first | exact Drawn0.refl _ | apply Drawn0.step)⟩
def lex_great.f (a0 : Int) : Option (Bool) := if a0 ≥ 65 then (some (decide (a0 ≤ 90))) else (some false)
set_option maxHeartbeats 8000000 in
set_option maxRecDepth 100000 in
theorem lex_great.calls (a0 : Int) (r : Bool) (w : World) (h : lex_great.f a0 = some r) :
  Calls Try.prog 88 #[.int .u8 a0] w fun e w' => e = .returned (.bool r) ∧ Drawn0 w w' := by
 have H : (if a0 ≥ 65 then (some (decide (a0 ≤ 90))) else (some false)) = some r := h
 clear h
 by_cases c2 : a0 ≥ 65
 ·rw [if_pos c2] at H
  have c2b0 : decide (65 ≤ a0) = true := decide_eq_true c2
  clear c2
  obtain rfl := Option.some.inj H
  go_enter Try.func88, Try.ntmps88
  go_wp2
  go_ret
  exact ⟨yS, by repeat (first | exact Drawn0.refl _ | apply Drawn0.step)⟩
 ·rw [if_neg c2] at H
  have c2b0 : decide (65 ≤ a0) = false := decide_eq_false c2
  clear c2
  obtain rfl := Option.some.inj H
  go_enter Try.func88, Try.ntmps88
  go_wp2
  go_ret
  exact ⟨yS, by repeat (first | exact Drawn0.refl _ | apply Drawn0.step)⟩
def lex_first.f (k : Nat) (a0 : ByteArray) : Option (Int × Int) := if 0 < (a0.size : Int) then ((lex_small.f (bt a0 0)).bind fun t572 => (if t572 = true then ((run_word.f a0).bind fun t573 => (some (2, t573))) else ((lex_great.f (bt a0 0)).bind fun t574 => (if t574 = true then ((run_verb.f a0).bind fun t575 => (some (3, t575))) else ((strings_IndexByte.f (⟨#[43, 45, 42, 37, 33, 38, 124, 60, 62, 61, 126, 44, 35, 94, 36, 63, 64]⟩ : ByteArray) (bt a0 0)).bind fun t576 => (if t576 ≥ 0 then (some (4, 1)) else ((strings_IndexByte.f (⟨#[39, 47, 92, 46, 96]⟩ : ByteArray) (bt a0 0)).bind fun t577 => (if t577 ≥ 0 then (some (5, 1)) else ((strings_IndexByte.f (⟨#[40, 41, 91, 93, 123, 125, 58]⟩ : ByteArray) (bt a0 0)).bind fun t578 => (if t578 ≥ 0 then (some (6, 1)) else ((strings_TrimPrefix.f a0 (⟨#[95]⟩ : ByteArray)).bind fun t579 => ((run_figure.f t579).bind fun t580 => (if 0 ≤ (wrap64 ((wrap64 ((a0.size : Int) - (t579.size : Int))) + t580)) then (if (wrap64 ((wrap64 ((a0.size : Int) - (t579.size : Int))) + t580)) ≤ (a0.size : Int) then ((lex_Number.f k (a0.extract 0 ((wrap64 ((wrap64 ((a0.size : Int) - (t579.size : Int))) + t580)) : Int).toNat)).bind fun bt581 => (if bt581.2 = true then (some (1, wrap64 ((wrap64 ((a0.size : Int) - (t579.size : Int))) + t580))) else (some (0, 0)))) else (none)) else (none)))))))))))))) else (none)
theorem lex_first.mono : ∀ a0 k, LeO (lex_first.f k a0) (lex_first.f (k + 1) a0) := by
 intro a0 k
 unfold lex_first.f
 repeat' first
   | (with_reducible exact lex_Number.mono _ _)
   | (with_reducible exact LeO.refl _)
   | (with_reducible exact LeO.none _)
   | (with_reducible refine LeO.ite ?_ ?_)
   | (with_reducible refine LeO.bind ?_ (fun _ => ?_))
   | exact lex_Number.mono _ _
   | exact LeO.none _
   | refine LeO.ite ?_ ?_
   | refine LeO.bind ?_ (fun _ => ?_)
set_option maxHeartbeats 8000000 in
set_option maxRecDepth 100000 in
theorem lex_first.calls (k : Nat) (a0 : ByteArray) (r1 : Int) (r2 : Int) (w : World) (h : lex_first.f k a0 = some (r1, r2)) :
  Calls Try.prog 65 #[.string a0] w fun e w' => e = .returned (.tuple #[.int .i64 r1, .int .i64 r2]) ∧ Below w.heap.size w w' := by
 have HB := am (Below.refl w.heap.size w)
 have H : (if 0 < (a0.size : Int) then ((lex_small.f (bt a0 0)).bind fun t572 => (if t572 = true then ((run_word.f a0).bind fun t573 => (some (2, t573))) else ((lex_great.f (bt a0 0)).bind fun t574 => (if t574 = true then ((run_verb.f a0).bind fun t575 => (some (3, t575))) else ((strings_IndexByte.f (⟨#[43, 45, 42, 37, 33, 38, 124, 60, 62, 61, 126, 44, 35, 94, 36, 63, 64]⟩ : ByteArray) (bt a0 0)).bind fun t576 => (if t576 ≥ 0 then (some (4, 1)) else ((strings_IndexByte.f (⟨#[39, 47, 92, 46, 96]⟩ : ByteArray) (bt a0 0)).bind fun t577 => (if t577 ≥ 0 then (some (5, 1)) else ((strings_IndexByte.f (⟨#[40, 41, 91, 93, 123, 125, 58]⟩ : ByteArray) (bt a0 0)).bind fun t578 => (if t578 ≥ 0 then (some (6, 1)) else ((strings_TrimPrefix.f a0 (⟨#[95]⟩ : ByteArray)).bind fun t579 => ((run_figure.f t579).bind fun t580 => (if 0 ≤ (wrap64 ((wrap64 ((a0.size : Int) - (t579.size : Int))) + t580)) then (if (wrap64 ((wrap64 ((a0.size : Int) - (t579.size : Int))) + t580)) ≤ (a0.size : Int) then ((lex_Number.f k (a0.extract 0 ((wrap64 ((wrap64 ((a0.size : Int) - (t579.size : Int))) + t580)) : Int).toNat)).bind fun bt581 => (if bt581.2 = true then (some (1, wrap64 ((wrap64 ((a0.size : Int) - (t579.size : Int))) + t580))) else (some (0, 0)))) else (none)) else (none)))))))))))))) else (none)) = some (r1, r2) := h
 clear h
 by_cases c2 : 0 < (a0.size : Int)
 ·rw [if_pos c2] at H
  have c2b0 : decide (0 < (a0.size : Int)) = true := decide_eq_true c2
  have c2b1 : decide (0 < a0.size) = true := decide_eq_true (by omega)
  clear c2
  replace H := Option.bind_eq_some_iff.mp H
  obtain ⟨t572, A40, H⟩ := H
  try dsimp only at H
  have A4 := am A40
  clear A40
  by_cases c5 : t572 = true
  ·subst c5
   rw [if_pos rfl] at H
   replace H := Option.bind_eq_some_iff.mp H
   obtain ⟨t573, A60, H⟩ := H
   try dsimp only at H
   have A6 := am A60
   clear A60
   simp only [Option.some.injEq, Prod.mk.injEq] at H
   obtain ⟨rfl, rfl⟩ := H
   have p3 : 0 ≤ (0 : Int) := (by omega)
   have q3 : 0 < a0.size := (by have : (0 : Int) < (a0.size : Int) := of_decide_eq_true yY; omega)
   have hx3 : ∀ h : 0 < a0.size, ((a0[0]'h).toNat : Int) = bt a0 0 := bt_at a0 0
   clear p3
   have qi3 : (0 < (a0.size : Int)) = True := eq_true (of_decide_eq_true yY)
   replace q3 := eq_true q3
   go_enter Try.func65, Try.ntmps65
   go_wp2_with (first | ((with_reducible refine gC 84 rfl ?_); refine gL (some 13) Try.func84 #[.int .u8 (bt a0 0)] ?_; (with_reducible refine (lex_small.calls _ _ _ A4.out).mono ?_); rintro e w' ⟨rfl, ⟨nd, rfl⟩⟩; refine ⟨_, rfl, ?_⟩) | ((with_reducible refine gC 85 rfl ?_); refine gL (some 15) Try.func85 #[.string a0, .func (.func 86) #[] #[]] ?_; (with_reducible refine (run_word.calls _ _ _ A6.out).mono ?_); rintro e w' ⟨rfl, ⟨nd, rfl⟩⟩; refine ⟨_, rfl, ?_⟩))
   go_ret2
   exact ⟨yE, (kL HB)⟩
  ·replace c5 := Bool.eq_false_iff.mpr c5
   subst c5
   rw [if_neg (show ¬ (false = true) by decide)] at H
   replace H := Option.bind_eq_some_iff.mp H
   obtain ⟨t574, A70, H⟩ := H
   try dsimp only at H
   have A7 := am A70
   clear A70
   by_cases c8 : t574 = true
   ·subst c8
    rw [if_pos rfl] at H
    replace H := Option.bind_eq_some_iff.mp H
    obtain ⟨t575, A90, H⟩ := H
    try dsimp only at H
    have A9 := am A90
    clear A90
    simp only [Option.some.injEq, Prod.mk.injEq] at H
    obtain ⟨rfl, rfl⟩ := H
    have p3 : 0 ≤ (0 : Int) := (by omega)
    have q3 : 0 < a0.size := (by have : (0 : Int) < (a0.size : Int) := of_decide_eq_true yY; omega)
    have hx3 : ∀ h : 0 < a0.size, ((a0[0]'h).toNat : Int) = bt a0 0 := bt_at a0 0
    clear p3
    have qi3 : (0 < (a0.size : Int)) = True := eq_true (of_decide_eq_true yY)
    replace q3 := eq_true q3
    go_enter Try.func65, Try.ntmps65
    go_wp2_with (first | ((with_reducible refine gC 84 rfl ?_); refine gL (some 13) Try.func84 #[.int .u8 (bt a0 0)] ?_; (with_reducible refine (lex_small.calls _ _ _ A4.out).mono ?_); rintro e w' ⟨rfl, ⟨nd, rfl⟩⟩; refine ⟨_, rfl, ?_⟩) | ((with_reducible refine gC 88 rfl ?_); refine gL (some 18) Try.func88 #[.int .u8 (bt a0 0)] ?_; (with_reducible refine (lex_great.calls _ _ _ A7.out).mono ?_); rintro e w' ⟨rfl, ⟨nd, rfl⟩⟩; refine ⟨_, rfl, ?_⟩) | ((with_reducible refine gC 85 rfl ?_); refine gL (some 20) Try.func85 #[.string a0, .func (.func 89) #[] #[]] ?_; (with_reducible refine (run_verb.calls _ _ _ A9.out).mono ?_); rintro e w' ⟨rfl, ⟨nd, rfl⟩⟩; refine ⟨_, rfl, ?_⟩))
    go_ret2
    exact ⟨yE, (kL HB)⟩
   ·replace c8 := Bool.eq_false_iff.mpr c8
    subst c8
    rw [if_neg (show ¬ (false = true) by decide)] at H
    replace H := Option.bind_eq_some_iff.mp H
    obtain ⟨t576, A100, H⟩ := H
    try dsimp only at H
    have A10 := am A100
    clear A100
    by_cases c11 : t576 ≥ 0
    ·rw [if_pos c11] at H
     have c11b0 : decide (0 ≤ t576) = true := decide_eq_true c11
     clear c11
     simp only [Option.some.injEq, Prod.mk.injEq] at H
     obtain ⟨rfl, rfl⟩ := H
     have p3 : 0 ≤ (0 : Int) := (by omega)
     have q3 : 0 < a0.size := (by have : (0 : Int) < (a0.size : Int) := of_decide_eq_true yY; omega)
     have hx3 : ∀ h : 0 < a0.size, ((a0[0]'h).toNat : Int) = bt a0 0 := bt_at a0 0
     clear p3
     have qi3 : (0 < (a0.size : Int)) = True := eq_true (of_decide_eq_true yY)
     replace q3 := eq_true q3
     go_enter Try.func65, Try.ntmps65
     go_wp2_with (first | ((with_reducible refine gC 84 rfl ?_); refine gL (some 13) Try.func84 #[.int .u8 (bt a0 0)] ?_; (with_reducible refine (lex_small.calls _ _ _ A4.out).mono ?_); rintro e w' ⟨rfl, ⟨nd, rfl⟩⟩; refine ⟨_, rfl, ?_⟩) | ((with_reducible refine gC 88 rfl ?_); refine gL (some 18) Try.func88 #[.int .u8 (bt a0 0)] ?_; (with_reducible refine (lex_great.calls _ _ _ A7.out).mono ?_); rintro e w' ⟨rfl, ⟨nd, rfl⟩⟩; refine ⟨_, rfl, ?_⟩) | ((with_reducible refine gC 90 rfl ?_); refine gL (some 23) Try.func90 #[.string (⟨#[43, 45, 42, 37, 33, 38, 124, 60, 62, 61, 126, 44, 35, 94, 36, 63, 64]⟩ : ByteArray), .int .u8 (bt a0 0)] ?_; (with_reducible refine (strings_IndexByte.calls _ _ _ _ A10.out).mono ?_); rintro e w' ⟨rfl, ⟨nd, rfl⟩⟩; refine ⟨_, rfl, ?_⟩))
     go_ret2
     exact ⟨yE, (kL HB)⟩
    ·rw [if_neg c11] at H
     have c11b0 : decide (0 ≤ t576) = false := decide_eq_false c11
     clear c11
     replace H := Option.bind_eq_some_iff.mp H
     obtain ⟨t577, A120, H⟩ := H
     try dsimp only at H
     have A12 := am A120
     clear A120
     by_cases c13 : t577 ≥ 0
     ·rw [if_pos c13] at H
      have c13b0 : decide (0 ≤ t577) = true := decide_eq_true c13
      clear c13
      simp only [Option.some.injEq, Prod.mk.injEq] at H
      obtain ⟨rfl, rfl⟩ := H
      have p3 : 0 ≤ (0 : Int) := (by omega)
      have q3 : 0 < a0.size := (by have : (0 : Int) < (a0.size : Int) := of_decide_eq_true yY; omega)
      have hx3 : ∀ h : 0 < a0.size, ((a0[0]'h).toNat : Int) = bt a0 0 := bt_at a0 0
      clear p3
      have qi3 : (0 < (a0.size : Int)) = True := eq_true (of_decide_eq_true yY)
      replace q3 := eq_true q3
      go_enter Try.func65, Try.ntmps65
      go_wp2_with (first | ((with_reducible refine gC 84 rfl ?_); refine gL (some 13) Try.func84 #[.int .u8 (bt a0 0)] ?_; (with_reducible refine (lex_small.calls _ _ _ A4.out).mono ?_); rintro e w' ⟨rfl, ⟨nd, rfl⟩⟩; refine ⟨_, rfl, ?_⟩) | ((with_reducible refine gC 88 rfl ?_); refine gL (some 18) Try.func88 #[.int .u8 (bt a0 0)] ?_; (with_reducible refine (lex_great.calls _ _ _ A7.out).mono ?_); rintro e w' ⟨rfl, ⟨nd, rfl⟩⟩; refine ⟨_, rfl, ?_⟩) | ((with_reducible refine gC 90 rfl ?_); refine gL (some 23) Try.func90 #[.string (⟨#[43, 45, 42, 37, 33, 38, 124, 60, 62, 61, 126, 44, 35, 94, 36, 63, 64]⟩ : ByteArray), .int .u8 (bt a0 0)] ?_; (with_reducible refine (strings_IndexByte.calls _ _ _ _ A10.out).mono ?_); rintro e w' ⟨rfl, ⟨nd, rfl⟩⟩; refine ⟨_, rfl, ?_⟩) | ((with_reducible refine gC 90 rfl ?_); refine gL (some 27) Try.func90 #[.string (⟨#[39, 47, 92, 46, 96]⟩ : ByteArray), .int .u8 (bt a0 0)] ?_; (with_reducible refine (strings_IndexByte.calls _ _ _ _ A12.out).mono ?_); rintro e w' ⟨rfl, ⟨nd, rfl⟩⟩; refine ⟨_, rfl, ?_⟩))
      go_ret2
      exact ⟨yE, (kL HB)⟩
     ·rw [if_neg c13] at H
      have c13b0 : decide (0 ≤ t577) = false := decide_eq_false c13
      clear c13
      replace H := Option.bind_eq_some_iff.mp H
      obtain ⟨t578, A140, H⟩ := H
      try dsimp only at H
      have A14 := am A140
      clear A140
      by_cases c15 : t578 ≥ 0
      ·rw [if_pos c15] at H
       have c15b0 : decide (0 ≤ t578) = true := decide_eq_true c15
       clear c15
       simp only [Option.some.injEq, Prod.mk.injEq] at H
       obtain ⟨rfl, rfl⟩ := H
       have p3 : 0 ≤ (0 : Int) := (by omega)
       have q3 : 0 < a0.size := (by have : (0 : Int) < (a0.size : Int) := of_decide_eq_true yY; omega)
       have hx3 : ∀ h : 0 < a0.size, ((a0[0]'h).toNat : Int) = bt a0 0 := bt_at a0 0
       clear p3
       have qi3 : (0 < (a0.size : Int)) = True := eq_true (of_decide_eq_true yY)
       replace q3 := eq_true q3
       go_enter Try.func65, Try.ntmps65
       go_wp2_with (first | ((with_reducible refine gC 84 rfl ?_); refine gL (some 13) Try.func84 #[.int .u8 (bt a0 0)] ?_; (with_reducible refine (lex_small.calls _ _ _ A4.out).mono ?_); rintro e w' ⟨rfl, ⟨nd, rfl⟩⟩; refine ⟨_, rfl, ?_⟩) | ((with_reducible refine gC 88 rfl ?_); refine gL (some 18) Try.func88 #[.int .u8 (bt a0 0)] ?_; (with_reducible refine (lex_great.calls _ _ _ A7.out).mono ?_); rintro e w' ⟨rfl, ⟨nd, rfl⟩⟩; refine ⟨_, rfl, ?_⟩) | ((with_reducible refine gC 90 rfl ?_); refine gL (some 23) Try.func90 #[.string (⟨#[43, 45, 42, 37, 33, 38, 124, 60, 62, 61, 126, 44, 35, 94, 36, 63, 64]⟩ : ByteArray), .int .u8 (bt a0 0)] ?_; (with_reducible refine (strings_IndexByte.calls _ _ _ _ A10.out).mono ?_); rintro e w' ⟨rfl, ⟨nd, rfl⟩⟩; refine ⟨_, rfl, ?_⟩) | ((with_reducible refine gC 90 rfl ?_); refine gL (some 27) Try.func90 #[.string (⟨#[39, 47, 92, 46, 96]⟩ : ByteArray), .int .u8 (bt a0 0)] ?_; (with_reducible refine (strings_IndexByte.calls _ _ _ _ A12.out).mono ?_); rintro e w' ⟨rfl, ⟨nd, rfl⟩⟩; refine ⟨_, rfl, ?_⟩) | ((with_reducible refine gC 90 rfl ?_); refine gL (some 31) Try.func90 #[.string (⟨#[40, 41, 91, 93, 123, 125, 58]⟩ : ByteArray), .int .u8 (bt a0 0)] ?_; (with_reducible refine (strings_IndexByte.calls _ _ _ _ A14.out).mono ?_); rintro e w' ⟨rfl, ⟨nd, rfl⟩⟩; refine ⟨_, rfl, ?_⟩))
       go_ret2
       exact ⟨yE, (kL HB)⟩
      ·rw [if_neg c15] at H
       have c15b0 : decide (0 ≤ t578) = false := decide_eq_false c15
       clear c15
       replace H := Option.bind_eq_some_iff.mp H
       obtain ⟨t579, A160, H⟩ := H
       try dsimp only at H
       have A16 := am A160
       clear A160
       replace H := Option.bind_eq_some_iff.mp H
       obtain ⟨t580, A170, H⟩ := H
       try dsimp only at H
       have A17 := am A170
       clear A170
       obtain ⟨ji18, hji18⟩ : ∃ j_ : Int, (wrap64 ((wrap64 ((a0.size : Int) - (t579.size : Int))) + t580)) = j_ := ⟨_, rfl⟩
       replace H : (if 0 ≤ (ji18) then (if (ji18) ≤ (a0.size : Int) then ((lex_Number.f k (a0.extract 0 ((ji18) : Int).toNat)).bind fun bt581 => (if bt581.2 = true then (some (1, ji18)) else (some (0, 0)))) else (none)) else (none)) = some (r1, r2) := by first | (rw [hji18] at H; exact H) | (simp only [hji18] at H ⊢; exact H)
       (try rw [hji18] at A4)
       (try rw [hji18] at A7)
       (try rw [hji18] at A10)
       (try rw [hji18] at A12)
       (try rw [hji18] at A14)
       (try rw [hji18] at A16)
       (try rw [hji18] at A17)
       have hji18w : (IntKind.i64.wrap ((wrap64 ((a0.size : Int) - (t579.size : Int))) + t580)) = ji18 := (i64_w _).trans hji18
       by_cases c19 : 0 ≤ (ji18)
       ·rw [if_pos c19] at H
        have c19b0 := eq_true c19
        have c19b1 : decide (0 ≤ (ji18)) = true := decide_eq_true c19
        clear c19
        by_cases c20 : (ji18) ≤ (a0.size : Int)
        ·rw [if_pos c20] at H
         have c20b0 := eq_true c20
         have c20b1 : decide ((ji18) ≤ (a0.size : Int)) = true := decide_eq_true c20
         clear c20
         replace H := Option.bind_eq_some_iff.mp H
         obtain ⟨⟨t581, t582⟩, A210, H⟩ := H
         try dsimp only at H
         have A21 := am A210
         clear A210
         by_cases c22 : t582 = true
         ·subst c22
          rw [if_pos rfl] at H
          simp only [Option.some.injEq, Prod.mk.injEq] at H
          obtain ⟨rfl, rfl⟩ := H
          have p3 : 0 ≤ (0 : Int) := (by omega)
          have q3 : 0 < a0.size := (by have : (0 : Int) < (a0.size : Int) := of_decide_eq_true yY; omega)
          have hx3 : ∀ h : 0 < a0.size, ((a0[0]'h).toNat : Int) = bt a0 0 := bt_at a0 0
          clear p3
          have qi3 : (0 < (a0.size : Int)) = True := eq_true (of_decide_eq_true yY)
          replace q3 := eq_true q3
          go_enter Try.func65, Try.ntmps65
          go_wp2_with (first | ((with_reducible refine gC 84 rfl ?_); refine gL (some 13) Try.func84 #[.int .u8 (bt a0 0)] ?_; (with_reducible refine (lex_small.calls _ _ _ A4.out).mono ?_); rintro e w' ⟨rfl, ⟨nd, rfl⟩⟩; refine ⟨_, rfl, ?_⟩) | ((with_reducible refine gC 88 rfl ?_); refine gL (some 18) Try.func88 #[.int .u8 (bt a0 0)] ?_; (with_reducible refine (lex_great.calls _ _ _ A7.out).mono ?_); rintro e w' ⟨rfl, ⟨nd, rfl⟩⟩; refine ⟨_, rfl, ?_⟩) | ((with_reducible refine gC 90 rfl ?_); refine gL (some 23) Try.func90 #[.string (⟨#[43, 45, 42, 37, 33, 38, 124, 60, 62, 61, 126, 44, 35, 94, 36, 63, 64]⟩ : ByteArray), .int .u8 (bt a0 0)] ?_; (with_reducible refine (strings_IndexByte.calls _ _ _ _ A10.out).mono ?_); rintro e w' ⟨rfl, ⟨nd, rfl⟩⟩; refine ⟨_, rfl, ?_⟩) | ((with_reducible refine gC 90 rfl ?_); refine gL (some 27) Try.func90 #[.string (⟨#[39, 47, 92, 46, 96]⟩ : ByteArray), .int .u8 (bt a0 0)] ?_; (with_reducible refine (strings_IndexByte.calls _ _ _ _ A12.out).mono ?_); rintro e w' ⟨rfl, ⟨nd, rfl⟩⟩; refine ⟨_, rfl, ?_⟩) | ((with_reducible refine gC 90 rfl ?_); refine gL (some 31) Try.func90 #[.string (⟨#[40, 41, 91, 93, 123, 125, 58]⟩ : ByteArray), .int .u8 (bt a0 0)] ?_; (with_reducible refine (strings_IndexByte.calls _ _ _ _ A14.out).mono ?_); rintro e w' ⟨rfl, ⟨nd, rfl⟩⟩; refine ⟨_, rfl, ?_⟩) | ((with_reducible refine gC 80 rfl ?_); refine gL (some 34) Try.func80 #[.string a0, .string (⟨#[95]⟩ : ByteArray)] ?_; (with_reducible refine (strings_TrimPrefix.calls _ _ _ _ A16.out).mono ?_); rintro e w' ⟨rfl, ⟨nd, rfl⟩⟩; refine ⟨_, rfl, ?_⟩) | ((with_reducible refine gC 85 rfl ?_); refine gL (some 41) Try.func85 #[.string t579, .func (.func 87) #[] #[]] ?_; (with_reducible refine (run_figure.calls _ _ _ A17.out).mono ?_); rintro e w' ⟨rfl, ⟨nd, rfl⟩⟩; refine ⟨_, rfl, ?_⟩) | ((with_reducible refine gC 91 rfl ?_); refine goesL_ (some 47) rfl rfl Try.func91 (by kernel_rfl) rfl #[.string (a0.extract 0 ((ji18) : Int).toNat)] rfl (by (try simp only [List.map_toArray, List.map_cons, List.map_nil]); first | done | (simp only [hji18]; rfl) | rfl | (simp only [List.length_drop, List.length_take]; rfl)) ?_; (with_reducible refine (lex_Number.calls _ _ _ _ _ A21.out).mono ?_); rintro e w23 ⟨rfl, hb⟩; refine ⟨_, rfl, ?_⟩; replace HB := am (below_step (kL HB) hb)))
          go_ret2
          exact ⟨by first | rfl | (simp [errW_none, errW_some] <;> rfl) | (simp only [← hji18]; first | rfl | (simp [errW_none, errW_some] <;> rfl)) | (simp [*, errW_none, errW_some] <;> rfl), (kL HB)⟩
         ·replace c22 := Bool.eq_false_iff.mpr c22
          subst c22
          rw [if_neg (show ¬ (false = true) by decide)] at H
          simp only [Option.some.injEq, Prod.mk.injEq] at H
          obtain ⟨rfl, rfl⟩ := H
          have p3 : 0 ≤ (0 : Int) := (by omega)
          have q3 : 0 < a0.size := (by have : (0 : Int) < (a0.size : Int) := of_decide_eq_true yY; omega)
          have hx3 : ∀ h : 0 < a0.size, ((a0[0]'h).toNat : Int) = bt a0 0 := bt_at a0 0
          clear p3
          have qi3 : (0 < (a0.size : Int)) = True := eq_true (of_decide_eq_true yY)
          replace q3 := eq_true q3
          go_enter Try.func65, Try.ntmps65
          go_wp2_with (first | ((with_reducible refine gC 84 rfl ?_); refine gL (some 13) Try.func84 #[.int .u8 (bt a0 0)] ?_; (with_reducible refine (lex_small.calls _ _ _ A4.out).mono ?_); rintro e w' ⟨rfl, ⟨nd, rfl⟩⟩; refine ⟨_, rfl, ?_⟩) | ((with_reducible refine gC 88 rfl ?_); refine gL (some 18) Try.func88 #[.int .u8 (bt a0 0)] ?_; (with_reducible refine (lex_great.calls _ _ _ A7.out).mono ?_); rintro e w' ⟨rfl, ⟨nd, rfl⟩⟩; refine ⟨_, rfl, ?_⟩) | ((with_reducible refine gC 90 rfl ?_); refine gL (some 23) Try.func90 #[.string (⟨#[43, 45, 42, 37, 33, 38, 124, 60, 62, 61, 126, 44, 35, 94, 36, 63, 64]⟩ : ByteArray), .int .u8 (bt a0 0)] ?_; (with_reducible refine (strings_IndexByte.calls _ _ _ _ A10.out).mono ?_); rintro e w' ⟨rfl, ⟨nd, rfl⟩⟩; refine ⟨_, rfl, ?_⟩) | ((with_reducible refine gC 90 rfl ?_); refine gL (some 27) Try.func90 #[.string (⟨#[39, 47, 92, 46, 96]⟩ : ByteArray), .int .u8 (bt a0 0)] ?_; (with_reducible refine (strings_IndexByte.calls _ _ _ _ A12.out).mono ?_); rintro e w' ⟨rfl, ⟨nd, rfl⟩⟩; refine ⟨_, rfl, ?_⟩) | ((with_reducible refine gC 90 rfl ?_); refine gL (some 31) Try.func90 #[.string (⟨#[40, 41, 91, 93, 123, 125, 58]⟩ : ByteArray), .int .u8 (bt a0 0)] ?_; (with_reducible refine (strings_IndexByte.calls _ _ _ _ A14.out).mono ?_); rintro e w' ⟨rfl, ⟨nd, rfl⟩⟩; refine ⟨_, rfl, ?_⟩) | ((with_reducible refine gC 80 rfl ?_); refine gL (some 34) Try.func80 #[.string a0, .string (⟨#[95]⟩ : ByteArray)] ?_; (with_reducible refine (strings_TrimPrefix.calls _ _ _ _ A16.out).mono ?_); rintro e w' ⟨rfl, ⟨nd, rfl⟩⟩; refine ⟨_, rfl, ?_⟩) | ((with_reducible refine gC 85 rfl ?_); refine gL (some 41) Try.func85 #[.string t579, .func (.func 87) #[] #[]] ?_; (with_reducible refine (run_figure.calls _ _ _ A17.out).mono ?_); rintro e w' ⟨rfl, ⟨nd, rfl⟩⟩; refine ⟨_, rfl, ?_⟩) | ((with_reducible refine gC 91 rfl ?_); refine goesL_ (some 47) rfl rfl Try.func91 (by kernel_rfl) rfl #[.string (a0.extract 0 ((ji18) : Int).toNat)] rfl (by (try simp only [List.map_toArray, List.map_cons, List.map_nil]); first | done | (simp only [hji18]; rfl) | rfl | (simp only [List.length_drop, List.length_take]; rfl)) ?_; (with_reducible refine (lex_Number.calls _ _ _ _ _ A21.out).mono ?_); rintro e w24 ⟨rfl, hb⟩; refine ⟨_, rfl, ?_⟩; replace HB := am (below_step (kL HB) hb)))
          go_ret2
          exact ⟨by first | rfl | (simp [errW_none, errW_some] <;> rfl) | (simp only [← hji18]; first | rfl | (simp [errW_none, errW_some] <;> rfl)) | (simp [*, errW_none, errW_some] <;> rfl), (kL HB)⟩
        ·rw [if_neg c20] at H
         exact absurd H (by simp)
       ·rw [if_neg c19] at H
        exact absurd H (by simp)
 ·rw [if_neg c2] at H
  exact absurd H (by simp)
end Go.Proofs.Ytdelccahgchadaa.P
end
section
namespace Go.Proofs.Ytdelccahgchadaa.P
open Go.RowKit Go.Proofs.YtdelccahgchadaaW.PrintWords Go.Proofs.YtdelccahgchadaaW.PrintLast Go.Proofs.YtdelccahgchadaaW.PrintMore
attribute [local go_sem] max2_int min2_int max_two min_two max_three min_three max_four min_four   
set_option linter.unusedVariables false
set_option linter.unusedSimpArgs false
def lex_Lex.l0 : Nat → ByteArray → List (S71) → Int → Option ((List (S71)) × Int × Int)
 | 0, _, _, _ => none
 | k + 1, x0, x5, x6 => if x6 < (x0.size : Int) then (if 0 ≤ x6 then (if 0 < 1 then (if (bt x0 x6) = (bt (⟨#[32]⟩ : ByteArray) 0) then (lex_Lex.l0 k x0 x5 (wrap64 (x6 + 1))) else (if x6 ≤ (x0.size : Int) then ((lex_first.f k (x0.extract (x6 : Int).toNat x0.size)).bind fun bt583 => (if bt583.1 = 0 then (some (([] : List (S71)), x6, 2)) else (if x6 ≤ (wrap64 (x6 + bt583.2)) then (if (wrap64 (x6 + bt583.2)) ≤ (x0.size : Int) then (if x5.length < 4398046511104 then (lex_Lex.l0 k x0 (x5 ++ [(⟨bt583.1, x0.extract (x6 : Int).toNat ((wrap64 (x6 + bt583.2)) : Int).toNat, x6⟩ : S71)]) (wrap64 (x6 + bt583.2))) else (none)) else (none)) else (none)))) else (none))) else (none)) else (none)) else (some (x5, 0, 0))
def lex_Lex.f (k : Nat) (a0 : ByteArray) : Option ((List (S71)) × Int × Int) := if (a0.size : Int) > 256 then (some (([] : List (S71)), 0, 8)) else (lex_Lex.l0 k a0 ([] : List (S71)) 0)
theorem lex_Lex.mono_l : ∀ k, (∀ y0 y1 y2, LeO (lex_Lex.l0 k y0 y1 y2) (lex_Lex.l0 (k + 1) y0 y1 y2))
 | 0 => fun _ _ _ r h => by simp [lex_Lex.l0] at h
 | k + 1 => by
  have ih0 := lex_Lex.mono_l k
  ·intro y0 y1 y2
   unfold lex_Lex.l0
   repeat' first
   | (with_reducible exact ih0 _ _ _)
   | (with_reducible exact lex_first.mono _ _)
   | (with_reducible exact LeO.refl _)
   | (with_reducible exact LeO.none _)
   | (with_reducible refine LeO.ite ?_ ?_)
   | (with_reducible refine LeO.bind ?_ (fun _ => ?_))
   | exact ih0 _ _ _
   | exact lex_first.mono _ _
   | exact LeO.none _
   | refine LeO.ite ?_ ?_
   | refine LeO.bind ?_ (fun _ => ?_)
theorem lex_Lex.mono : ∀ a0 k, LeO (lex_Lex.f k a0) (lex_Lex.f (k + 1) a0) := by
 intro a0 k
 have ih0 := lex_Lex.mono_l k
 unfold lex_Lex.f
 repeat' first
   | (with_reducible exact ih0 _ _ _)
   | (with_reducible exact lex_first.mono _ _)
   | (with_reducible exact LeO.refl _)
   | (with_reducible exact LeO.none _)
   | (with_reducible refine LeO.ite ?_ ?_)
   | (with_reducible refine LeO.bind ?_ (fun _ => ?_))
   | exact ih0 _ _ _
   | exact lex_first.mono _ _
   | exact LeO.none _
   | refine LeO.ite ?_ ?_
   | refine LeO.bind ?_ (fun _ => ?_)
set_option maxHeartbeats 8000000 in
set_option maxRecDepth 100000 in
theorem lex_Lex.calls (k : Nat) (a0 : ByteArray) (r1 : List (S71)) (r2 : Int) (r3 : Int) (w : World) (h : lex_Lex.f k a0 = some (r1, r2, r3)) :
  Calls Try.prog 49 #[.string a0] w fun e w' => ∃ v0_ : Value, e = .returned (.tuple #[v0_, .int .i64 r2, .int .i64 r3]) ∧ Kd.R k71 71 w' w.heap.size (fun _ => True) v0_ r1 ∧ Below w.heap.size w w' := by
 have hu71 := Try.underlying71
 have HB := am (Below.refl w.heap.size w)
 have H : (if (a0.size : Int) > 256 then (some (([] : List (S71)), 0, 8)) else (lex_Lex.l0 k a0 ([] : List (S71)) 0)) = some (r1, r2, r3) := h
 clear h
 by_cases c2 : (a0.size : Int) > 256
 ·rw [if_pos c2] at H
  have c2b0 : decide (256 < (a0.size : Int)) = true := decide_eq_true c2
  have c2b1 : decide (256 < a0.size) = true := decide_eq_true (by omega)
  clear c2
  simp only [Option.some.injEq, Prod.mk.injEq] at H
  obtain ⟨rfl, rfl, rfl⟩ := H
  go_enter Try.func49, Try.ntmps49
  (try go_wp2)
  (try go_step3)
  go_wp2
  repeat (go_quiet (fail); try go_wp2)
  (try rw [Exit.noGoto_ret])
  go_ret3
  exact ⟨_, yE, by first | exact Kd.R_nil _ _ _ _ _ | exact Kd.N_nil _ _ _ _ _ | exact Kd.V_nil _ _ _ _ _ | exact Kd.Q_nil _ _ _ _ _ | exact Kd.S_nil _ _ _ _ _, (kL HB)⟩
 ·rw [if_neg c2] at H
  have c2b0 : decide (256 < (a0.size : Int)) = false := decide_eq_false c2
  have c2b1 : decide (256 < a0.size) = false := decide_eq_false (by omega)
  clear c2
  have H' := am H
  clear H
  go_enter Try.func49, Try.ntmps49
  (try go_wp2)
  (try go_step3)
  go_wp2
  repeat (go_quiet (fail); try go_wp2)
  (try go_step3)
  (try go_wp2)
  go_loopg [5, 6] k (fun kq v5 v6 w' => ∃ (x5_1 : List (S71)) (x6_1 : Int), v6 = .int .i64 x6_1 ∧ Aside0 (lex_Lex.l0 kq a0 x5_1 x6_1 = some (r1, r2, r3)) ∧ Aside0 (kq ≤ k) ∧ Aside0 (Kd.R k71 71 w' w.heap.size (fun _ => True) v5 x5_1) ∧ Aside0 (Below w.heap.size w w'))
  case atStart => exact ⟨(([] : List (S71))), (0), yS, H', ⟨Nat.le_refl _⟩, ⟨by first | exact Kd.R_nil _ _ _ _ _ | exact Kd.N_nil _ _ _ _ _ | exact Kd.V_nil _ _ _ _ _ | exact Kd.Q_nil _ _ _ _ _ | exact Kd.S_nil _ _ _ _ _⟩, ⟨(kL HB)⟩⟩
  case round =>
   clear H'
   try clear c2
   try clear c2b0
   try clear c2b1
   try clear p2
   obtain ⟨x5_1, x6_1, rfl, HA, HK1, HO_5, HB⟩ := hrel
   cases gk with
   | zero => exact absurd HA.out (by simp [lex_Lex.l0])
   | succ k1 =>
    have H := HA.out
    clear HA
    simp only [lex_Lex.l0] at H
    by_cases c3 : x6_1 < (a0.size : Int)
    ·rw [if_pos c3] at H
     have c3b0 : decide (x6_1 < (a0.size : Int)) = true := decide_eq_true c3
     clear c3
     by_cases c4 : 0 ≤ x6_1
     ·rw [if_pos c4] at H
      have c4b0 : decide (0 ≤ x6_1) = true := decide_eq_true c4
      clear c4
      by_cases c6 : 0 < 1
      ·rw [if_pos c6] at H
       have c6b0 : decide (0 < 1) = true := decide_eq_true c6
       clear c6
       by_cases c8 : (bt a0 x6_1) = (bt (⟨#[32]⟩ : ByteArray) 0)
       ·rw [if_pos c8] at H
        have c8b0 : ((bt a0 x6_1) == (bt (⟨#[32]⟩ : ByteArray) 0)) = true := beq_iff_eq.mpr c8
        have c8b1 : ((bt a0 x6_1) != (bt (⟨#[32]⟩ : ByteArray) 0)) = false := bne_eq_false_iff_eq.mpr c8
        clear c8
        have H' := am H
        clear H
        have p5 : 0 ≤ (x6_1 : Int) := of_decide_eq_true yY
        have q5 : x6_1 < (a0.size : Int) := of_decide_eq_true yY
        have hx5 := bt_at a0 x6_1
        replace p5 := eq_true p5
        replace q5 := eq_true q5
        have p7 : 0 ≤ (0 : Int) := (by omega)
        have q7 : 0 < (1 : Int) := (by omega)
        have hx7 := bt_at (⟨#[32]⟩ : ByteArray) 0
        have hx7L : ∀ (h : 0 < (⟨#[32]⟩ : ByteArray).size), ((((⟨#[32]⟩ : ByteArray)[0]'h).toNat : Nat) : Int) = bt (⟨#[32]⟩ : ByteArray) 0 := fun h => hx7 h
        replace p7 := eq_true p7
        replace q7 := eq_true q7
        go_wp2
        repeat (go_quiet (fail); try go_wp2)
        go_roundg k1
        case measure => have := HK1.out; omega
        case rel => exact ⟨(x5_1), (wrap64 (x6_1 + 1)), yS, H', ⟨by have := HK1.out; omega⟩, ⟨rB HO_5⟩, ⟨(kL HB)⟩⟩
       ·rw [if_neg c8] at H
        have c8b0 : ((bt a0 x6_1) == (bt (⟨#[32]⟩ : ByteArray) 0)) = false := beq_eq_false_iff_ne.mpr c8
        have c8b1 : ((bt a0 x6_1) != (bt (⟨#[32]⟩ : ByteArray) 0)) = true := bne_iff_ne.mpr c8
        have c9b0 := eq_true (of_decide_eq_true yY : 0 ≤ x6_1)
        by_cases c10 : x6_1 ≤ (a0.size : Int)
        ·rw [if_pos c10] at H
         have c10b0 := eq_true c10
         have c10b1 : decide (x6_1 ≤ (a0.size : Int)) = true := decide_eq_true c10
         clear c10
         replace H := Option.bind_eq_some_iff.mp H
         obtain ⟨⟨t583, t584⟩, A110, H⟩ := H
         try dsimp only at H
         have A11 := am A110
         clear A110
         by_cases c12 : t583 = 0
         ·rw [if_pos c12] at H
          have c12b0 := eT c12
          have c12b1 := nF c12
          clear c12
          simp only [Option.some.injEq, Prod.mk.injEq] at H
          obtain ⟨rfl, rfl, rfl⟩ := H
          have p5 : 0 ≤ (x6_1 : Int) := of_decide_eq_true yY
          have q5 : x6_1 < (a0.size : Int) := of_decide_eq_true yY
          have hx5 := bt_at a0 x6_1
          replace p5 := eq_true p5
          replace q5 := eq_true q5
          have p7 : 0 ≤ (0 : Int) := (by omega)
          have q7 : 0 < (1 : Int) := (by omega)
          have hx7 := bt_at (⟨#[32]⟩ : ByteArray) 0
          have hx7L : ∀ (h : 0 < (⟨#[32]⟩ : ByteArray).size), ((((⟨#[32]⟩ : ByteArray)[0]'h).toNat : Nat) : Int) = bt (⟨#[32]⟩ : ByteArray) 0 := fun h => hx7 h
          replace p7 := eq_true p7
          replace q7 := eq_true q7
          go_wp2_with (go_at_call 65; (with_reducible refine (lex_first.calls _ _ _ _ _ A11.out).mono ?_); rintro e w13 ⟨rfl, hb⟩; replace HO_5 := am (Kd.R_below (rB HO_5) hb); replace HB := am (below_step (kL HB) hb); (try clear hb))
          repeat (go_quiet (first | (go_at_call 65; (with_reducible refine (lex_first.calls _ _ _ _ _ A11.out).mono ?_); rintro e w13 ⟨rfl, hb⟩; replace HO_5 := am (Kd.R_below (rB HO_5) hb); replace HB := am (below_step (kL HB) hb); (try clear hb))); try go_wp2_with (go_at_call 65; (with_reducible refine (lex_first.calls _ _ _ _ _ A11.out).mono ?_); rintro e w13 ⟨rfl, hb⟩; replace HO_5 := am (Kd.R_below (rB HO_5) hb); replace HB := am (below_step (kL HB) hb); (try clear hb)))
          (try rw [Exit.noGoto_ret])
          go_ret3
          exact ⟨_, yE, by first | exact Kd.R_nil _ _ _ _ _ | exact Kd.N_nil _ _ _ _ _ | exact Kd.V_nil _ _ _ _ _ | exact Kd.Q_nil _ _ _ _ _ | exact Kd.S_nil _ _ _ _ _, (kL HB)⟩
         ·rw [if_neg c12] at H
          have c12b0 := eF c12
          have c12b1 := nT c12
          have c14b0 := eq_true (of_decide_eq_true yY : 0 ≤ x6_1)
          by_cases c15 : x6_1 ≤ (wrap64 (x6_1 + t584))
          ·rw [if_pos c15] at H
           have c15b0 := eq_true c15
           have c15b1 : decide (x6_1 ≤ (wrap64 (x6_1 + t584))) = true := decide_eq_true c15
           by_cases c16 : (wrap64 (x6_1 + t584)) ≤ (a0.size : Int)
           ·rw [if_pos c16] at H
            have c16b0 := eq_true c16
            have c16b1 : decide ((wrap64 (x6_1 + t584)) ≤ (a0.size : Int)) = true := decide_eq_true c16
            by_cases c17 : x5_1.length < 4398046511104
            ·rw [if_pos c17] at H
             have LMc17 := am c17
             clear c17
             obtain ⟨y585, hy585⟩ : ∃ y_ : List (S71), y_ = (x5_1 ++ [(⟨t583, a0.extract (x6_1 : Int).toNat ((wrap64 (x6_1 + t584)) : Int).toNat, x6_1⟩ : S71)]) := ⟨_, rfl⟩
             replace H : (lex_Lex.l0 k1 a0 y585 (wrap64 (x6_1 + t584))) = some (r1, r2, r3) := by first | (rw [hy585]; with_reducible exact H) | (have H2_ := (Option.bind_some _ _).symm.trans H; rw [hy585]; with_reducible exact H2_) | (have H2_ := (Option.bind_some _ _).symm.trans H; with_reducible exact H2_) | with_reducible exact H | (rw [hy585]; exact H) | exact H
             have Ny585 := am hy585
             clear hy585
             have H' := am H
             clear H
             have p5 : 0 ≤ (x6_1 : Int) := of_decide_eq_true yY
             have q5 : x6_1 < (a0.size : Int) := of_decide_eq_true yY
             have hx5 := bt_at a0 x6_1
             replace p5 := eq_true p5
             replace q5 := eq_true q5
             have p7 : 0 ≤ (0 : Int) := (by omega)
             have q7 : 0 < (1 : Int) := (by omega)
             have hx7 := bt_at (⟨#[32]⟩ : ByteArray) 0
             have hx7L : ∀ (h : 0 < (⟨#[32]⟩ : ByteArray).size), ((((⟨#[32]⟩ : ByteArray)[0]'h).toNat : Nat) : Int) = bt (⟨#[32]⟩ : ByteArray) 0 := fun h => hx7 h
             replace p7 := eq_true p7
             replace q7 := eq_true q7
             go_wp2_with (first | (go_at_call 65; (with_reducible refine (lex_first.calls _ _ _ _ _ A11.out).mono ?_); rintro e w18 ⟨rfl, hb⟩; replace HO_5 := am (Kd.R_below (rB HO_5) hb); replace HB := am (below_step (kL HB) hb); (try clear hb)) | ((with_reducible refine gate_builtin (b := .append) (xs := #[.tmp 33, .tmp 43]) rfl ?_); at_builtin; refine Kd.R_append k71 (w0 := w) w.heap.size rfl (.tmp 33) (.tmp 43) 46 71 (.agg #[(.int .i64 0), (.string ⟨#[]⟩), (.int .i64 0)]) 32 rfl Try.underlying46 info71 rfl (by decide) (by omega) u5 x5_1 (⟨t583, a0.extract (x6_1 : Int).toNat ((wrap64 (x6_1 + t584)) : Int).toNat, x6_1⟩ : S71) [.int .i64 t583, .string (a0.extract (x6_1 : Int).toNat ((wrap64 (x6_1 + t584)) : Int).toNat), .int .i64 x6_1] (fun _ => True) (fun _ => False) rfl rfl ?aP (fun _ hk => hk.elim) ?aF ?aO ?aB ?aS ?aL ?_; (case aP => exact k71_mkM _ _ _ (⟨t583, a0.extract (x6_1 : Int).toNat ((wrap64 (x6_1 + t584)) : Int).toNat, x6_1⟩ : S71)); (case aB => exact (kL HB)); (case aF => exact (fun _ _ => trivial)); (case aO => exact (rB HO_5)); (case aS => exact (below_size (kL HB))); (case aL => have := LMc17.out; omega); intro v586 w19 ho hb hg hat; rw [← Ny585.out] at ho; have n0_ := am hb; have n1_ := am (ho); clear HB; clear HO_5; have HB := n0_; have HO587 := n1_; clear n0_ n1_; clear ho hb hg hat))
             repeat (go_quiet (first | (go_at_call 65; (with_reducible refine (lex_first.calls _ _ _ _ _ A11.out).mono ?_); rintro e w18 ⟨rfl, hb⟩; replace HO_5 := am (Kd.R_below (rB HO_5) hb); replace HB := am (below_step (kL HB) hb); (try clear hb)) | ((with_reducible refine gate_builtin (b := .append) (xs := #[.tmp 33, .tmp 43]) rfl ?_); at_builtin; refine Kd.R_append k71 (w0 := w) w.heap.size rfl (.tmp 33) (.tmp 43) 46 71 (.agg #[(.int .i64 0), (.string ⟨#[]⟩), (.int .i64 0)]) 32 rfl Try.underlying46 info71 rfl (by decide) (by omega) u5 x5_1 (⟨t583, a0.extract (x6_1 : Int).toNat ((wrap64 (x6_1 + t584)) : Int).toNat, x6_1⟩ : S71) [.int .i64 t583, .string (a0.extract (x6_1 : Int).toNat ((wrap64 (x6_1 + t584)) : Int).toNat), .int .i64 x6_1] (fun _ => True) (fun _ => False) rfl rfl ?aP (fun _ hk => hk.elim) ?aF ?aO ?aB ?aS ?aL ?_; (case aP => exact k71_mkM _ _ _ (⟨t583, a0.extract (x6_1 : Int).toNat ((wrap64 (x6_1 + t584)) : Int).toNat, x6_1⟩ : S71)); (case aB => exact (kL HB)); (case aF => exact (fun _ _ => trivial)); (case aO => exact (rB HO_5)); (case aS => exact (below_size (kL HB))); (case aL => have := LMc17.out; omega); intro v586 w19 ho hb hg hat; rw [← Ny585.out] at ho; have n0_ := am hb; have n1_ := am (ho); clear HB; clear HO_5; have HB := n0_; have HO587 := n1_; clear n0_ n1_; clear ho hb hg hat)); try go_wp2_with (first | (go_at_call 65; (with_reducible refine (lex_first.calls _ _ _ _ _ A11.out).mono ?_); rintro e w18 ⟨rfl, hb⟩; replace HO_5 := am (Kd.R_below (rB HO_5) hb); replace HB := am (below_step (kL HB) hb); (try clear hb)) | ((with_reducible refine gate_builtin (b := .append) (xs := #[.tmp 33, .tmp 43]) rfl ?_); at_builtin; refine Kd.R_append k71 (w0 := w) w.heap.size rfl (.tmp 33) (.tmp 43) 46 71 (.agg #[(.int .i64 0), (.string ⟨#[]⟩), (.int .i64 0)]) 32 rfl Try.underlying46 info71 rfl (by decide) (by omega) u5 x5_1 (⟨t583, a0.extract (x6_1 : Int).toNat ((wrap64 (x6_1 + t584)) : Int).toNat, x6_1⟩ : S71) [.int .i64 t583, .string (a0.extract (x6_1 : Int).toNat ((wrap64 (x6_1 + t584)) : Int).toNat), .int .i64 x6_1] (fun _ => True) (fun _ => False) rfl rfl ?aP (fun _ hk => hk.elim) ?aF ?aO ?aB ?aS ?aL ?_; (case aP => exact k71_mkM _ _ _ (⟨t583, a0.extract (x6_1 : Int).toNat ((wrap64 (x6_1 + t584)) : Int).toNat, x6_1⟩ : S71)); (case aB => exact (kL HB)); (case aF => exact (fun _ _ => trivial)); (case aO => exact (rB HO_5)); (case aS => exact (below_size (kL HB))); (case aL => have := LMc17.out; omega); intro v586 w19 ho hb hg hat; rw [← Ny585.out] at ho; have n0_ := am hb; have n1_ := am (ho); clear HB; clear HO_5; have HB := n0_; have HO587 := n1_; clear n0_ n1_; clear ho hb hg hat)))
             go_roundg k1
             case measure => have := HK1.out; omega
             case rel => exact ⟨(y585), (wrap64 (x6_1 + t584)), yS, H', ⟨by have := HK1.out; omega⟩, ⟨rB HO587⟩, ⟨(kL HB)⟩⟩
            ·rw [if_neg c17] at H
             exact absurd H (by simp)
           ·rw [if_neg c16] at H
            exact absurd H (by simp)
          ·rw [if_neg c15] at H
           exact absurd H (by simp)
        ·rw [if_neg c10] at H
         exact absurd H (by simp)
      ·rw [if_neg c6] at H
       exact absurd H (by simp)
     ·rw [if_neg c4] at H
      exact absurd H (by simp)
    ·rw [if_neg c3] at H
     have c3b0 : decide (x6_1 < (a0.size : Int)) = false := decide_eq_false c3
     clear c3
     simp only [Option.some.injEq, Prod.mk.injEq] at H
     obtain ⟨rfl, rfl, rfl⟩ := H
     go_wp2
     repeat (go_quiet (fail); try go_wp2)
     (try rw [Exit.noGoto_ret])
     go_ret3
     exact ⟨_, yE, rB HO_5, (kL HB)⟩
end Go.Proofs.Ytdelccahgchadaa.P
end
section
namespace Go.Proofs.Ytdelccahgchadaa.P
open Go.RowKit Go.Proofs.YtdelccahgchadaaW.PrintWords Go.Proofs.YtdelccahgchadaaW.PrintLast Go.Proofs.YtdelccahgchadaaW.PrintMore
attribute [local go_sem] max2_int min2_int max_two min_two max_three min_three max_four min_four   
set_option linter.unusedVariables false
set_option linter.unusedSimpArgs false
end Go.Proofs.Ytdelccahgchadaa.P
end
section
namespace Go.Proofs.Ytdelccahgchadaa.P
open Go.RowKit Go.Proofs.YtdelccahgchadaaW.PrintWords Go.Proofs.YtdelccahgchadaaW.PrintLast Go.Proofs.YtdelccahgchadaaW.PrintMore
attribute [local go_sem] max2_int min2_int max_two min_two max_three min_three max_four min_four   
set_option linter.unusedVariables false
set_option linter.unusedSimpArgs false
end Go.Proofs.Ytdelccahgchadaa.P
end
section
namespace Go.Proofs.Ytdelccahgchadaa.P
open Go.RowKit Go.Proofs.YtdelccahgchadaaW.PrintWords Go.Proofs.YtdelccahgchadaaW.PrintLast Go.Proofs.YtdelccahgchadaaW.PrintMore
attribute [local go_sem] max2_int min2_int max_two min_two max_three min_three max_four min_four   
set_option linter.unusedVariables false
set_option linter.unusedSimpArgs false
end Go.Proofs.Ytdelccahgchadaa.P
end
section
namespace Go.Proofs.Ytdelccahgchadaa.P
open Go.RowKit Go.Proofs.YtdelccahgchadaaW.PrintWords Go.Proofs.YtdelccahgchadaaW.PrintLast Go.Proofs.YtdelccahgchadaaW.PrintMore
attribute [local go_sem] max2_int min2_int max_two min_two max_three min_three max_four min_four   
set_option linter.unusedVariables false
set_option linter.unusedSimpArgs false
end Go.Proofs.Ytdelccahgchadaa.P
end
section
namespace Go.Proofs.Ytdelccahgchadaa.P
open Go.RowKit Go.Proofs.YtdelccahgchadaaW.PrintWords Go.Proofs.YtdelccahgchadaaW.PrintLast Go.Proofs.YtdelccahgchadaaW.PrintMore
attribute [local go_sem] max2_int min2_int max_two min_two max_three min_three max_four min_four   
set_option linter.unusedVariables false
set_option linter.unusedSimpArgs false
end Go.Proofs.Ytdelccahgchadaa.P
end
section
namespace Go.Proofs.Ytdelccahgchadaa.P
open Go.RowKit Go.Proofs.YtdelccahgchadaaW.PrintWords Go.Proofs.YtdelccahgchadaaW.PrintLast Go.Proofs.YtdelccahgchadaaW.PrintMore
attribute [local go_sem] max2_int min2_int max_two min_two max_three min_three max_four min_four   
set_option linter.unusedVariables false
set_option linter.unusedSimpArgs false
def slices_Equal_string_string.l0 : Nat → List ByteArray → List ByteArray → Int → Int → Option (Bool)
 | 0, _, _, _, _ => none
 | k + 1, x0, x1, x12, x13 => if x13 < x12 then (if 0 ≤ x13 then (if x13 < (x0.length : Int) then (if x13 < (x1.length : Int) then (if (rdOf ByteArray.empty x0 x13).toList = (rdOf ByteArray.empty x1 x13).toList then (slices_Equal_string_string.l0 k x0 x1 x12 (wrap64 (x13 + 1))) else (some false)) else (none)) else (none)) else (none)) else (some true)
def slices_Equal_string_string.f (k : Nat) (l0 : List ByteArray) (l1 : List ByteArray) : Option (Bool) := if (l0.length : Int) = (l1.length : Int) then (slices_Equal_string_string.l0 k l0 l1 (l0.length : Int) 0) else (some false)
theorem slices_Equal_string_string.mono_l : ∀ k, (∀ y0 y1 y2 y3, LeO (slices_Equal_string_string.l0 k y0 y1 y2 y3) (slices_Equal_string_string.l0 (k + 1) y0 y1 y2 y3))
 | 0 => fun _ _ _ _ r h => by simp [slices_Equal_string_string.l0] at h
 | k + 1 => by
  have ih0 := slices_Equal_string_string.mono_l k
  ·intro y0 y1 y2 y3
   unfold slices_Equal_string_string.l0
   repeat' first
   | (with_reducible exact ih0 _ _ _ _)
   | (with_reducible exact LeO.refl _)
   | (with_reducible exact LeO.none _)
   | (with_reducible refine LeO.ite ?_ ?_)
   | (with_reducible refine LeO.bind ?_ (fun _ => ?_))
   | exact ih0 _ _ _ _
   | exact LeO.none _
   | refine LeO.ite ?_ ?_
   | refine LeO.bind ?_ (fun _ => ?_)
theorem slices_Equal_string_string.mono : ∀ a0 a1 k, LeO (slices_Equal_string_string.f k a0 a1) (slices_Equal_string_string.f (k + 1) a0 a1) := by
 intro a0 a1 k
 have ih0 := slices_Equal_string_string.mono_l k
 unfold slices_Equal_string_string.f
 repeat' first
   | (with_reducible exact ih0 _ _ _ _)
   | (with_reducible exact LeO.refl _)
   | (with_reducible exact LeO.none _)
   | (with_reducible refine LeO.ite ?_ ?_)
   | (with_reducible refine LeO.bind ?_ (fun _ => ?_))
   | exact ih0 _ _ _ _
   | exact LeO.none _
   | refine LeO.ite ?_ ?_
   | refine LeO.bind ?_ (fun _ => ?_)
set_option maxHeartbeats 8000000 in
set_option maxRecDepth 100000 in
theorem slices_Equal_string_string.calls (k : Nat) (A0 : Option Addr) (c0 : Nat) (l0 : List ByteArray) (A1 : Option Addr) (c1 : Nat) (l1 : List ByteArray) (r : Bool) (w : World) (hr0 : Kd.C Kd.string w A0 l0.length l0) (hc0 : l0.length ≤ c0) (hr1 : Kd.C Kd.string w A1 l1.length l1) (hc1 : l1.length ≤ c1) (h : slices_Equal_string_string.f k l0 l1 = some r) :
  Calls Try.prog 47 #[.slice A0 l0.length c0, .slice A1 l1.length c1] w fun e w' => e = .returned (.bool r) ∧ Drawn0 w w' := by
 have HR0 := am hr0
 have HC0 := am hc0
 clear hr0 hc0
 have HR1 := am hr1
 have HC1 := am hc1
 clear hr1 hc1
 have H : (if (l0.length : Int) = (l1.length : Int) then (slices_Equal_string_string.l0 k l0 l1 (l0.length : Int) 0) else (some false)) = some r := h
 clear h
 by_cases c3 : (l0.length : Int) = (l1.length : Int)
 ·rw [if_pos c3] at H
  have c3b0 := eT c3
  have c3b1 := nF c3
  have c3b2 : (l0.length == l1.length) = true := by first | simpa using c3 | (simp at c3 ⊢; omega)
  clear c3
  have H' := am H
  clear H
  go_enter Try.func47, Try.ntmps47
  go_wp2
  repeat (go_quiet (fail); try go_wp2)
  go_loopg [13] k (fun kq v13 w' => ∃ (x13_1 : Int), v13 = .int .i64 x13_1 ∧ Aside0 (slices_Equal_string_string.l0 kq l0 l1 (l0.length : Int) x13_1 = some r) ∧ Aside0 (kq ≤ k) ∧ Drawn0 w w')
  case atStart => exact ⟨(0), yS, H', ⟨Nat.le_refl _⟩, by repeat (first | exact Drawn0.refl _ | apply Drawn0.step)⟩
  case round =>
   clear H'
   try clear c1
   try clear p2
   try clear c3
   try clear c3b0
   try clear c3b1
   try clear c3b2
   obtain ⟨x13_1, rfl, HA, HK1, ⟨m1, rfl⟩⟩ := hrel
   cases gk with
   | zero => exact absurd HA.out (by simp [slices_Equal_string_string.l0])
   | succ k1 =>
    have H := HA.out
    clear HA
    simp only [slices_Equal_string_string.l0] at H
    by_cases c4 : x13_1 < (l0.length : Int)
    ·rw [if_pos c4] at H
     have c4b0 : decide (x13_1 < (l0.length : Int)) = true := decide_eq_true c4
     clear c4
     by_cases c5 : 0 ≤ x13_1
     ·rw [if_pos c5] at H
      have c5b0 : decide (0 ≤ x13_1) = true := decide_eq_true c5
      clear c5
      by_cases c6 : x13_1 < (l0.length : Int)
      ·rw [if_pos c6] at H
       have c6b0 : decide (x13_1 < (l0.length : Int)) = true := decide_eq_true c6
       clear c6
       by_cases c7 : x13_1 < (l1.length : Int)
       ·rw [if_pos c7] at H
        have c7b0 : decide (x13_1 < (l1.length : Int)) = true := decide_eq_true c7
        clear c7
        by_cases c8 : (rdOf ByteArray.empty l0 x13_1).toList = (rdOf ByteArray.empty l1 x13_1).toList
        ·rw [if_pos c8] at H
         have c8b0 := eT c8
         have c8b1 := nF c8
         clear c8
         have H' := am H
         clear H
         have p784 : 0 ≤ (x13_1 : Int) := of_decide_eq_true yY
         have q784 : x13_1 < (l0.length : Int) := of_decide_eq_true yY
         obtain ⟨ad784, e784, hx784_0⟩ := Kd.at_string HR0.out x13_1 p784 q784
         cases e784
         replace p784 := eq_true p784
         replace q784 := eq_true q784
         have p785 : 0 ≤ (x13_1 : Int) := of_decide_eq_true yY
         have q785 : x13_1 < (l1.length : Int) := of_decide_eq_true yY
         obtain ⟨ad785, e785, hx785_0⟩ := Kd.at_string HR1.out x13_1 p785 q785
         cases e785
         replace p785 := eq_true p785
         replace q785 := eq_true q785
         go_wp2
         repeat (go_quiet (fail); try go_wp2)
         go_roundg k1
         case measure => have := HK1.out; omega
         case rel => exact ⟨(wrap64 (x13_1 + 1)), yS, H', ⟨by have := HK1.out; omega⟩, by repeat (first | exact Drawn0.refl _ | apply Drawn0.step)⟩
        ·rw [if_neg c8] at H
         have c8b0 := eF c8
         have c8b1 := nT c8
         obtain rfl := Option.some.inj H
         have p784 : 0 ≤ (x13_1 : Int) := of_decide_eq_true yY
         have q784 : x13_1 < (l0.length : Int) := of_decide_eq_true yY
         obtain ⟨ad784, e784, hx784_0⟩ := Kd.at_string HR0.out x13_1 p784 q784
         cases e784
         replace p784 := eq_true p784
         replace q784 := eq_true q784
         have p785 : 0 ≤ (x13_1 : Int) := of_decide_eq_true yY
         have q785 : x13_1 < (l1.length : Int) := of_decide_eq_true yY
         obtain ⟨ad785, e785, hx785_0⟩ := Kd.at_string HR1.out x13_1 p785 q785
         cases e785
         replace p785 := eq_true p785
         replace q785 := eq_true q785
         go_wp2
         repeat (go_quiet (fail); try go_wp2)
         go_ret
         exact ⟨yS, by repeat (first | exact Drawn0.refl _ | apply Drawn0.step)⟩
       ·rw [if_neg c7] at H
        exact absurd H (by simp)
      ·rw [if_neg c6] at H
       exact absurd H (by simp)
     ·rw [if_neg c5] at H
      exact absurd H (by simp)
    ·rw [if_neg c4] at H
     have c4b0 : decide (x13_1 < (l0.length : Int)) = false := decide_eq_false c4
     clear c4
     obtain rfl := Option.some.inj H
     go_wp2
     repeat (go_quiet (fail); try go_wp2)
     go_ret
     exact ⟨yS, by repeat (first | exact Drawn0.refl _ | apply Drawn0.step)⟩
 ·rw [if_neg c3] at H
  have c3b0 := eF c3
  have c3b1 := nT c3
  have c3b2 : (l0.length == l1.length) = false := by first | simpa using c3 | (simp at c3 ⊢; omega)
  obtain rfl := Option.some.inj H
  go_enter Try.func47, Try.ntmps47
  go_wp2
  repeat (go_quiet (fail); try go_wp2)
  go_ret
  exact ⟨yS, by repeat (first | exact Drawn0.refl _ | apply Drawn0.step)⟩
end Go.Proofs.Ytdelccahgchadaa.P
end
section
namespace Go.Proofs.Ytdelccahgchadaa.P
open Go.RowKit Go.Proofs.YtdelccahgchadaaW.PrintWords Go.Proofs.YtdelccahgchadaaW.PrintLast Go.Proofs.YtdelccahgchadaaW.PrintMore
attribute [local go_sem] max2_int min2_int max_two min_two max_three min_three max_four min_four   
set_option linter.unusedVariables false
set_option linter.unusedSimpArgs false
def tree_Same_1.f (k : Nat) (a0_0 : Int) (a0_1 : ByteArray) (a0_2 : ByteArray) (a0_3 : ByteArray) (l0_4 : List ByteArray) (a1_0 : Int) (a1_1 : ByteArray) (a1_2 : ByteArray) (a1_3 : ByteArray) (l1_4 : List ByteArray) : Option (Bool) := if a0_0 = a1_0 then (if a0_1.toList = a1_1.toList then (if a0_2.toList = a1_2.toList then (if a0_3.toList = a1_3.toList then ((slices_Equal_string_string.f k l0_4 l1_4).bind fun t788 => (some t788)) else (some false)) else (some false)) else (some false)) else (some false)
theorem tree_Same_1.mono : ∀ a0 a1 a2 a3 a4 a5 a6 a7 a8 a9 k, LeO (tree_Same_1.f k a0 a1 a2 a3 a4 a5 a6 a7 a8 a9) (tree_Same_1.f (k + 1) a0 a1 a2 a3 a4 a5 a6 a7 a8 a9) := by
 intro a0 a1 a2 a3 a4 a5 a6 a7 a8 a9 k
 unfold tree_Same_1.f
 repeat' first
   | (with_reducible exact slices_Equal_string_string.mono _ _ _)
   | (with_reducible exact LeO.refl _)
   | (with_reducible exact LeO.none _)
   | (with_reducible refine LeO.ite ?_ ?_)
   | (with_reducible refine LeO.bind ?_ (fun _ => ?_))
   | exact slices_Equal_string_string.mono _ _ _
   | exact LeO.none _
   | refine LeO.ite ?_ ?_
   | refine LeO.bind ?_ (fun _ => ?_)
set_option maxHeartbeats 8000000 in
set_option maxRecDepth 100000 in
theorem tree_Same_1.calls (k : Nat) (a0_0 : Int) (a0_1 : ByteArray) (a0_2 : ByteArray) (a0_3 : ByteArray) (A0_4 : Option Addr) (c0_4 : Nat) (l0_4 : List ByteArray) (a1_0 : Int) (a1_1 : ByteArray) (a1_2 : ByteArray) (a1_3 : ByteArray) (A1_4 : Option Addr) (c1_4 : Nat) (l1_4 : List ByteArray) (r : Bool) (w : World) (hr0_4 : Kd.C Kd.string w A0_4 l0_4.length l0_4) (hc0_4 : l0_4.length ≤ c0_4) (hr1_4 : Kd.C Kd.string w A1_4 l1_4.length l1_4) (hc1_4 : l1_4.length ≤ c1_4) (h : tree_Same_1.f k a0_0 a0_1 a0_2 a0_3 l0_4 a1_0 a1_1 a1_2 a1_3 l1_4 = some r) :
  Calls Try.prog 46 #[.agg #[.int .i64 a0_0, .string a0_1, .string a0_2, .string a0_3, .slice A0_4 l0_4.length c0_4], .agg #[.int .i64 a1_0, .string a1_1, .string a1_2, .string a1_3, .slice A1_4 l1_4.length c1_4]] w fun e w' => e = .returned (.bool r) ∧ Below w.heap.size w w' := by
 have hu25 := Try.underlying25
 have HR0_4 := am hr0_4
 have HC0_4 := am hc0_4
 clear hr0_4 hc0_4
 have HR1_4 := am hr1_4
 have HC1_4 := am hc1_4
 clear hr1_4 hc1_4
 have HB := am (Below.refl w.heap.size w)
 have H : (if a0_0 = a1_0 then (if a0_1.toList = a1_1.toList then (if a0_2.toList = a1_2.toList then (if a0_3.toList = a1_3.toList then ((slices_Equal_string_string.f k l0_4 l1_4).bind fun t788 => (some t788)) else (some false)) else (some false)) else (some false)) else (some false)) = some r := h
 clear h
 by_cases c3 : a0_0 = a1_0
 ·rw [if_pos c3] at H
  have c3b0 := eT c3
  have c3b1 := nF c3
  clear c3
  by_cases c4 : a0_1.toList = a1_1.toList
  ·rw [if_pos c4] at H
   have c4b0 := eT c4
   have c4b1 := nF c4
   clear c4
   by_cases c5 : a0_2.toList = a1_2.toList
   ·rw [if_pos c5] at H
    have c5b0 := eT c5
    have c5b1 := nF c5
    clear c5
    by_cases c6 : a0_3.toList = a1_3.toList
    ·rw [if_pos c6] at H
     have c6b0 := eT c6
     have c6b1 := nF c6
     clear c6
     replace H := Option.bind_eq_some_iff.mp H
     obtain ⟨t788, A70, H⟩ := H
     try dsimp only at H
     have A7 := am A70
     clear A70
     obtain rfl := Option.some.inj H
     go_enter Try.func46, Try.ntmps46
     go_wp2_with (first | ((with_reducible refine gD 2 rfl ?_); refine bx 2 #[.int .i64 a0_0, .string a0_1, .string a0_2, .string a0_3, .slice A0_4 l0_4.length c0_4] 25 ?_; intro gb786 hg w8 hbox hb; have BK786 := am hbox; have GW786 := am (geL hg (kL HB)); replace HB := am (below_step (kL HB) hb); have GE786 := GW786; clear hb hbox hg) | ((with_reducible refine gD 3 rfl ?_); refine bx 3 #[.int .i64 a1_0, .string a1_1, .string a1_2, .string a1_3, .slice A1_4 l1_4.length c1_4] 25 ?_; intro gb787 hg w9 hbox hb; have BK787 := am hbox; have GW787 := am (geL hg (kL HB)); replace HB := am (below_step (kL HB) hb); have GE787 := GW787; have NB786_787 := am (neL hg (kB BK786)); have NB787_786 := am (neR hg (kB BK786)); replace BK786 := am (bB (kB BK786) hb); clear hb hbox hg; have hnb10 := NB786_787.out; have hnc10 := NB787_786.out; obtain ⟨hcz11_0, hcz11_1, hcz11_2, hcz11_3, hcz11_4, hfz11_0, hfz11_1, hfz11_2, hfz11_3, hfz11_4⟩ := bk5 BK786.out; obtain ⟨hcz12_0, hcz12_1, hcz12_2, hcz12_3, hcz12_4, hfz12_0, hfz12_1, hfz12_2, hfz12_3, hfz12_4⟩ := bk5 BK787.out) | (go_at_call 47; (with_reducible refine (slices_Equal_string_string.calls _ _ _ _ _ _ _ _ _ ?side1 ?side2 ?side3 ?side4 A7.out).mono ?_); (case side1 => exact Kd.C_below HR0_4.out (kL HB)); (case side2 => exact HC0_4.out); (case side3 => exact Kd.C_below HR1_4.out (kL HB)); (case side4 => exact HC1_4.out); rintro e w' ⟨rfl, ⟨nd, rfl⟩⟩))
     go_ret
     exact ⟨yE, (kL HB)⟩
    ·rw [if_neg c6] at H
     have c6b0 := eF c6
     have c6b1 := nT c6
     obtain rfl := Option.some.inj H
     go_enter Try.func46, Try.ntmps46
     go_wp2_with (first | ((with_reducible refine gD 2 rfl ?_); refine bx 2 #[.int .i64 a0_0, .string a0_1, .string a0_2, .string a0_3, .slice A0_4 l0_4.length c0_4] 25 ?_; intro gb786 hg w13 hbox hb; have BK786 := am hbox; have GW786 := am (geL hg (kL HB)); replace HB := am (below_step (kL HB) hb); have GE786 := GW786; clear hb hbox hg) | ((with_reducible refine gD 3 rfl ?_); refine bx 3 #[.int .i64 a1_0, .string a1_1, .string a1_2, .string a1_3, .slice A1_4 l1_4.length c1_4] 25 ?_; intro gb787 hg w14 hbox hb; have BK787 := am hbox; have GW787 := am (geL hg (kL HB)); replace HB := am (below_step (kL HB) hb); have GE787 := GW787; have NB786_787 := am (neL hg (kB BK786)); have NB787_786 := am (neR hg (kB BK786)); replace BK786 := am (bB (kB BK786) hb); clear hb hbox hg; have hnb15 := NB786_787.out; have hnc15 := NB787_786.out; obtain ⟨hcz16_0, hcz16_1, hcz16_2, hcz16_3, hcz16_4, hfz16_0, hfz16_1, hfz16_2, hfz16_3, hfz16_4⟩ := bk5 BK786.out; obtain ⟨hcz17_0, hcz17_1, hcz17_2, hcz17_3, hcz17_4, hfz17_0, hfz17_1, hfz17_2, hfz17_3, hfz17_4⟩ := bk5 BK787.out))
     go_ret
     exact ⟨yE, (kL HB)⟩
   ·rw [if_neg c5] at H
    have c5b0 := eF c5
    have c5b1 := nT c5
    obtain rfl := Option.some.inj H
    go_enter Try.func46, Try.ntmps46
    go_wp2_with (first | ((with_reducible refine gD 2 rfl ?_); refine bx 2 #[.int .i64 a0_0, .string a0_1, .string a0_2, .string a0_3, .slice A0_4 l0_4.length c0_4] 25 ?_; intro gb786 hg w18 hbox hb; have BK786 := am hbox; have GW786 := am (geL hg (kL HB)); replace HB := am (below_step (kL HB) hb); have GE786 := GW786; clear hb hbox hg) | ((with_reducible refine gD 3 rfl ?_); refine bx 3 #[.int .i64 a1_0, .string a1_1, .string a1_2, .string a1_3, .slice A1_4 l1_4.length c1_4] 25 ?_; intro gb787 hg w19 hbox hb; have BK787 := am hbox; have GW787 := am (geL hg (kL HB)); replace HB := am (below_step (kL HB) hb); have GE787 := GW787; have NB786_787 := am (neL hg (kB BK786)); have NB787_786 := am (neR hg (kB BK786)); replace BK786 := am (bB (kB BK786) hb); clear hb hbox hg; have hnb20 := NB786_787.out; have hnc20 := NB787_786.out; obtain ⟨hcz21_0, hcz21_1, hcz21_2, hcz21_3, hcz21_4, hfz21_0, hfz21_1, hfz21_2, hfz21_3, hfz21_4⟩ := bk5 BK786.out; obtain ⟨hcz22_0, hcz22_1, hcz22_2, hcz22_3, hcz22_4, hfz22_0, hfz22_1, hfz22_2, hfz22_3, hfz22_4⟩ := bk5 BK787.out))
    go_ret
    exact ⟨yE, (kL HB)⟩
  ·rw [if_neg c4] at H
   have c4b0 := eF c4
   have c4b1 := nT c4
   obtain rfl := Option.some.inj H
   go_enter Try.func46, Try.ntmps46
   go_wp2_with (first | ((with_reducible refine gD 2 rfl ?_); refine bx 2 #[.int .i64 a0_0, .string a0_1, .string a0_2, .string a0_3, .slice A0_4 l0_4.length c0_4] 25 ?_; intro gb786 hg w23 hbox hb; have BK786 := am hbox; have GW786 := am (geL hg (kL HB)); replace HB := am (below_step (kL HB) hb); have GE786 := GW786; clear hb hbox hg) | ((with_reducible refine gD 3 rfl ?_); refine bx 3 #[.int .i64 a1_0, .string a1_1, .string a1_2, .string a1_3, .slice A1_4 l1_4.length c1_4] 25 ?_; intro gb787 hg w24 hbox hb; have BK787 := am hbox; have GW787 := am (geL hg (kL HB)); replace HB := am (below_step (kL HB) hb); have GE787 := GW787; have NB786_787 := am (neL hg (kB BK786)); have NB787_786 := am (neR hg (kB BK786)); replace BK786 := am (bB (kB BK786) hb); clear hb hbox hg; have hnb25 := NB786_787.out; have hnc25 := NB787_786.out; obtain ⟨hcz26_0, hcz26_1, hcz26_2, hcz26_3, hcz26_4, hfz26_0, hfz26_1, hfz26_2, hfz26_3, hfz26_4⟩ := bk5 BK786.out; obtain ⟨hcz27_0, hcz27_1, hcz27_2, hcz27_3, hcz27_4, hfz27_0, hfz27_1, hfz27_2, hfz27_3, hfz27_4⟩ := bk5 BK787.out))
   go_ret
   exact ⟨yE, (kL HB)⟩
 ·rw [if_neg c3] at H
  have c3b0 := eF c3
  have c3b1 := nT c3
  obtain rfl := Option.some.inj H
  go_enter Try.func46, Try.ntmps46
  go_wp2_with (first | ((with_reducible refine gD 2 rfl ?_); refine bx 2 #[.int .i64 a0_0, .string a0_1, .string a0_2, .string a0_3, .slice A0_4 l0_4.length c0_4] 25 ?_; intro gb786 hg w28 hbox hb; have BK786 := am hbox; have GW786 := am (geL hg (kL HB)); replace HB := am (below_step (kL HB) hb); have GE786 := GW786; clear hb hbox hg) | ((with_reducible refine gD 3 rfl ?_); refine bx 3 #[.int .i64 a1_0, .string a1_1, .string a1_2, .string a1_3, .slice A1_4 l1_4.length c1_4] 25 ?_; intro gb787 hg w29 hbox hb; have BK787 := am hbox; have GW787 := am (geL hg (kL HB)); replace HB := am (below_step (kL HB) hb); have GE787 := GW787; have NB786_787 := am (neL hg (kB BK786)); have NB787_786 := am (neR hg (kB BK786)); replace BK786 := am (bB (kB BK786) hb); clear hb hbox hg; have hnb30 := NB786_787.out; have hnc30 := NB787_786.out; obtain ⟨hcz31_0, hcz31_1, hcz31_2, hcz31_3, hcz31_4, hfz31_0, hfz31_1, hfz31_2, hfz31_3, hfz31_4⟩ := bk5 BK786.out; obtain ⟨hcz32_0, hcz32_1, hcz32_2, hcz32_3, hcz32_4, hfz32_0, hfz32_1, hfz32_2, hfz32_3, hfz32_4⟩ := bk5 BK787.out))
  go_ret
  exact ⟨yE, (kL HB)⟩
def api_Node_45.l0 : Nat → List (S25) → List (S25) → Int → Int → Option (Bool)
 | 0, _, _, _, _ => none
 | k + 1, x1, x15, x16, x17 => if x17 < x16 then (if 0 ≤ x17 then (if x17 < (x15.length : Int) then (if x17 < (x1.length : Int) then ((tree_Same_1.f k ((rd_T25 x15 x17).f0) ((rd_T25 x15 x17).f1) ((rd_T25 x15 x17).f2) ((rd_T25 x15 x17).f3) ((rd_T25 x15 x17).f4) ((rd_T25 x1 x17).f0) ((rd_T25 x1 x17).f1) ((rd_T25 x1 x17).f2) ((rd_T25 x1 x17).f3) ((rd_T25 x1 x17).f4)).bind fun t793 => (if t793 = true then (api_Node_45.l0 k x1 x15 x16 (wrap64 (x17 + 1))) else (some false))) else (none)) else (none)) else (none)) else (some true)
def api_Node_45.f (k : Nat) (l0 : List (S25)) (l1 : List (S25))  : Option (Bool) := if (l0.length : Int) = (l1.length : Int) then (api_Node_45.l0 k l1 l0 (l0.length : Int) 0) else (some false)
theorem api_Node_45.mono_l : ∀ k, (∀ y0 y1 y2 y3, LeO (api_Node_45.l0 k y0 y1 y2 y3) (api_Node_45.l0 (k + 1) y0 y1 y2 y3))
 | 0 => fun _ _ _ _ r h => by simp [api_Node_45.l0] at h
 | k + 1 => by
  have ih0 := api_Node_45.mono_l k
  ·intro y0 y1 y2 y3
   unfold api_Node_45.l0
   repeat' first
   | (with_reducible exact ih0 _ _ _ _)
   | (with_reducible exact tree_Same_1.mono _ _ _ _ _ _ _ _ _ _ _)
   | (with_reducible exact LeO.refl _)
   | (with_reducible exact LeO.none _)
   | (with_reducible refine LeO.ite ?_ ?_)
   | (with_reducible refine LeO.bind ?_ (fun _ => ?_))
   | exact ih0 _ _ _ _
   | exact tree_Same_1.mono _ _ _ _ _ _ _ _ _ _ _
   | exact LeO.none _
   | refine LeO.ite ?_ ?_
   | refine LeO.bind ?_ (fun _ => ?_)
theorem api_Node_45.mono : ∀ a0 a1 k, LeO (api_Node_45.f k a0 a1) (api_Node_45.f (k + 1) a0 a1) := by
 intro a0 a1 k
 have ih0 := api_Node_45.mono_l k
 unfold api_Node_45.f
 repeat' first
   | (with_reducible exact ih0 _ _ _ _)
   | (with_reducible exact tree_Same_1.mono _ _ _ _ _ _ _ _ _ _ _)
   | (with_reducible exact LeO.refl _)
   | (with_reducible exact LeO.none _)
   | (with_reducible refine LeO.ite ?_ ?_)
   | (with_reducible refine LeO.bind ?_ (fun _ => ?_))
   | exact ih0 _ _ _ _
   | exact tree_Same_1.mono _ _ _ _ _ _ _ _ _ _ _
   | exact LeO.none _
   | refine LeO.ite ?_ ?_
   | refine LeO.bind ?_ (fun _ => ?_)
set_option maxHeartbeats 8000000 in
set_option maxRecDepth 100000 in
theorem api_Node_45.calls (k : Nat) (A0 : Option Addr) (c0 : Nat) (l0 : List (S25)) (A1 : Option Addr) (c1 : Nat) (l1 : List (S25))  (r : Bool) (w : World) (hr0 : Kd.C k25 w A0 l0.length l0) (hc0 : l0.length ≤ c0) (hr1 : Kd.C k25 w A1 l1.length l1) (hc1 : l1.length ≤ c1) (h : api_Node_45.f k l0 l1 = some r) :
  Calls Try.prog 45 #[.slice A0 l0.length c0, .slice A1 l1.length c1, .func (.func 46) #[] #[]] w fun e w' => e = .returned (.bool r) ∧ Below w.heap.size w w' := by
 have hu25 := Try.underlying25
 have HR0 := am hr0
 have HC0 := am hc0
 clear hr0 hc0
 have HR1 := am hr1
 have HC1 := am hc1
 clear hr1 hc1
 have HB := am (Below.refl w.heap.size w)
 have H : (if (l0.length : Int) = (l1.length : Int) then (api_Node_45.l0 k l1 l0 (l0.length : Int) 0) else (some false)) = some r := h
 clear h
 by_cases c4 : (l0.length : Int) = (l1.length : Int)
 ·rw [if_pos c4] at H
  have c4b0 := eT c4
  have c4b1 := nF c4
  have c4b2 : (l0.length == l1.length) = true := by first | simpa using c4 | (simp at c4 ⊢; omega)
  clear c4
  have H' := am H
  clear H
  go_enter Try.func45, Try.ntmps45
  go_wp2
  go_loopg [17] k (fun kq v17 w' => ∃ (x17_1 : Int), v17 = .int .i64 x17_1 ∧ Aside0 (api_Node_45.l0 kq l1 l0 (l0.length : Int) x17_1 = some r) ∧ Aside0 (kq ≤ k) ∧ Aside0 (Below w.heap.size w w'))
  case atStart => exact ⟨(0), yS, H', ⟨Nat.le_refl _⟩, ⟨(kL HB)⟩⟩
  case round =>
   clear H'
   try clear c1
   try clear p2
   try clear c4
   try clear c4b0
   try clear c4b1
   try clear c4b2
   obtain ⟨x17_1, rfl, HA, HK1, HB⟩ := hrel
   cases gk with
   | zero => exact absurd HA.out (by simp [api_Node_45.l0])
   | succ k1 =>
    have H := HA.out
    clear HA
    simp only [api_Node_45.l0] at H
    by_cases c5 : x17_1 < (l0.length : Int)
    ·rw [if_pos c5] at H
     have c5b0 : decide (x17_1 < (l0.length : Int)) = true := decide_eq_true c5
     clear c5
     by_cases c6 : 0 ≤ x17_1
     ·rw [if_pos c6] at H
      have c6b0 : decide (0 ≤ x17_1) = true := decide_eq_true c6
      clear c6
      by_cases c7 : x17_1 < (l0.length : Int)
      ·rw [if_pos c7] at H
       have c7b0 : decide (x17_1 < (l0.length : Int)) = true := decide_eq_true c7
       clear c7
       by_cases c8 : x17_1 < (l1.length : Int)
       ·rw [if_pos c8] at H
        have c8b0 : decide (x17_1 < (l1.length : Int)) = true := decide_eq_true c8
        clear c8
        replace H := Option.bind_eq_some_iff.mp H
        obtain ⟨t793, A90, H⟩ := H
        try dsimp only at H
        have A9 := am A90
        clear A90
        by_cases c10 : t793 = true
        ·subst c10
         rw [if_pos rfl] at H
         have H' := am H
         clear H
         have p789 : 0 ≤ (x17_1 : Int) := of_decide_eq_true yY
         have q789 : x17_1 < (l0.length : Int) := of_decide_eq_true yY
         obtain ⟨ad789, A789_4, c789_4, e789, hx789_0, hx789_1, hx789_2, hx789_3, hx789_4, hl789_4, hi789_4⟩ := at_T25 HR0.out x17_1 p789 q789
         cases e789
         replace hx789_0 := (HB.out.cell (World.block_lt_of_cell? w _ hx789_0)).trans hx789_0
         replace hx789_1 := (HB.out.cell (World.block_lt_of_cell? w _ hx789_1)).trans hx789_1
         replace hx789_2 := (HB.out.cell (World.block_lt_of_cell? w _ hx789_2)).trans hx789_2
         replace hx789_3 := (HB.out.cell (World.block_lt_of_cell? w _ hx789_3)).trans hx789_3
         replace hx789_4 := (HB.out.cell (World.block_lt_of_cell? w _ hx789_4)).trans hx789_4
         have HR789_4 := am hi789_4
         have HC789_4 := am hl789_4
         clear hi789_4 hl789_4
         replace p789 := eq_true p789
         replace q789 := eq_true q789
         go_wp2_with (first | ((with_reducible refine gD 8 rfl ?_); refine bx 8 #[.int .i64 0, .string (⟨#[]⟩ : ByteArray), .string (⟨#[]⟩ : ByteArray), .string (⟨#[]⟩ : ByteArray), .slice none 0 0] 25 ?_; intro gb790 hg w11 hbox hb; have BK790 := am hbox; have GW790 := am (geL hg (kL HB)); replace HB := am (below_step (kL HB) hb); have GE790 := GW790; clear hb hbox hg; obtain ⟨hcz12_0, hcz12_1, hcz12_2, hcz12_3, hcz12_4, hfz12_0, hfz12_1, hfz12_2, hfz12_3, hfz12_4⟩ := bk5 BK790.out; have p791 : 0 ≤ (x17_1 : Int) := of_decide_eq_true yY; have q791 : x17_1 < (l1.length : Int) := of_decide_eq_true yY; obtain ⟨ad791, A791_4, c791_4, e791, hx791_0, hx791_1, hx791_2, hx791_3, hx791_4, hl791_4, hi791_4⟩ := at_T25 HR1.out x17_1 p791 q791; cases e791; have hn791_0 : ad791.block ≠ gb790 := Nat.ne_of_lt (Nat.lt_of_lt_of_le (by have := World.block_lt_of_cell? _ _ hx791_0; first | rwa [add_block] at this | exact this) GW790.out); have hn791_1 : ad791.block ≠ gb790 := Nat.ne_of_lt (Nat.lt_of_lt_of_le (by have := World.block_lt_of_cell? _ _ hx791_0; first | rwa [add_block] at this | exact this) GW790.out); have hn791_2 : ad791.block ≠ gb790 := Nat.ne_of_lt (Nat.lt_of_lt_of_le (by have := World.block_lt_of_cell? _ _ hx791_0; first | rwa [add_block] at this | exact this) GW790.out); have hn791_3 : ad791.block ≠ gb790 := Nat.ne_of_lt (Nat.lt_of_lt_of_le (by have := World.block_lt_of_cell? _ _ hx791_0; first | rwa [add_block] at this | exact this) GW790.out); have hn791_4 : ad791.block ≠ gb790 := Nat.ne_of_lt (Nat.lt_of_lt_of_le (by have := World.block_lt_of_cell? _ _ hx791_0; first | rwa [add_block] at this | exact this) GW790.out); replace hx791_0 := (HB.out.cell (World.block_lt_of_cell? w _ hx791_0)).trans hx791_0; replace hx791_1 := (HB.out.cell (World.block_lt_of_cell? w _ hx791_1)).trans hx791_1; replace hx791_2 := (HB.out.cell (World.block_lt_of_cell? w _ hx791_2)).trans hx791_2; replace hx791_3 := (HB.out.cell (World.block_lt_of_cell? w _ hx791_3)).trans hx791_3; replace hx791_4 := (HB.out.cell (World.block_lt_of_cell? w _ hx791_4)).trans hx791_4; have HR791_4 := am hi791_4; have HC791_4 := am hl791_4; clear hi791_4 hl791_4; replace hx791_0 := (cell_far (p := ⟨gb790, 0, none⟩) (by first | (rw [add_block]; exact hn791_0) | (show (Addr.add _ _).block ≠ _; rw [add_block]; exact hn791_0) | exact hn791_0) (.int .i64 ((rd_T25 l0 x17_1).f0))).trans hx791_0; replace hx791_1 := (cell_far (p := ⟨gb790, 0, none⟩) (by first | (rw [add_block]; exact hn791_0) | (show (Addr.add _ _).block ≠ _; rw [add_block]; exact hn791_0) | exact hn791_0) (.int .i64 ((rd_T25 l0 x17_1).f0))).trans hx791_1; replace hx791_2 := (cell_far (p := ⟨gb790, 0, none⟩) (by first | (rw [add_block]; exact hn791_0) | (show (Addr.add _ _).block ≠ _; rw [add_block]; exact hn791_0) | exact hn791_0) (.int .i64 ((rd_T25 l0 x17_1).f0))).trans hx791_2; replace hx791_3 := (cell_far (p := ⟨gb790, 0, none⟩) (by first | (rw [add_block]; exact hn791_0) | (show (Addr.add _ _).block ≠ _; rw [add_block]; exact hn791_0) | exact hn791_0) (.int .i64 ((rd_T25 l0 x17_1).f0))).trans hx791_3; replace hx791_4 := (cell_far (p := ⟨gb790, 0, none⟩) (by first | (rw [add_block]; exact hn791_0) | (show (Addr.add _ _).block ≠ _; rw [add_block]; exact hn791_0) | exact hn791_0) (.int .i64 ((rd_T25 l0 x17_1).f0))).trans hx791_4; replace hx791_0 := (cell_far (p := ⟨gb790, 1, none⟩) (by first | (rw [add_block]; exact hn791_1) | (show (Addr.add _ _).block ≠ _; rw [add_block]; exact hn791_1) | exact hn791_1) (.string ((rd_T25 l0 x17_1).f1))).trans hx791_0; replace hx791_1 := (cell_far (p := ⟨gb790, 1, none⟩) (by first | (rw [add_block]; exact hn791_1) | (show (Addr.add _ _).block ≠ _; rw [add_block]; exact hn791_1) | exact hn791_1) (.string ((rd_T25 l0 x17_1).f1))).trans hx791_1; replace hx791_2 := (cell_far (p := ⟨gb790, 1, none⟩) (by first | (rw [add_block]; exact hn791_1) | (show (Addr.add _ _).block ≠ _; rw [add_block]; exact hn791_1) | exact hn791_1) (.string ((rd_T25 l0 x17_1).f1))).trans hx791_2; replace hx791_3 := (cell_far (p := ⟨gb790, 1, none⟩) (by first | (rw [add_block]; exact hn791_1) | (show (Addr.add _ _).block ≠ _; rw [add_block]; exact hn791_1) | exact hn791_1) (.string ((rd_T25 l0 x17_1).f1))).trans hx791_3; replace hx791_4 := (cell_far (p := ⟨gb790, 1, none⟩) (by first | (rw [add_block]; exact hn791_1) | (show (Addr.add _ _).block ≠ _; rw [add_block]; exact hn791_1) | exact hn791_1) (.string ((rd_T25 l0 x17_1).f1))).trans hx791_4; replace hx791_0 := (cell_far (p := ⟨gb790, 2, none⟩) (by first | (rw [add_block]; exact hn791_2) | (show (Addr.add _ _).block ≠ _; rw [add_block]; exact hn791_2) | exact hn791_2) (.string ((rd_T25 l0 x17_1).f2))).trans hx791_0; replace hx791_1 := (cell_far (p := ⟨gb790, 2, none⟩) (by first | (rw [add_block]; exact hn791_2) | (show (Addr.add _ _).block ≠ _; rw [add_block]; exact hn791_2) | exact hn791_2) (.string ((rd_T25 l0 x17_1).f2))).trans hx791_1; replace hx791_2 := (cell_far (p := ⟨gb790, 2, none⟩) (by first | (rw [add_block]; exact hn791_2) | (show (Addr.add _ _).block ≠ _; rw [add_block]; exact hn791_2) | exact hn791_2) (.string ((rd_T25 l0 x17_1).f2))).trans hx791_2; replace hx791_3 := (cell_far (p := ⟨gb790, 2, none⟩) (by first | (rw [add_block]; exact hn791_2) | (show (Addr.add _ _).block ≠ _; rw [add_block]; exact hn791_2) | exact hn791_2) (.string ((rd_T25 l0 x17_1).f2))).trans hx791_3; replace hx791_4 := (cell_far (p := ⟨gb790, 2, none⟩) (by first | (rw [add_block]; exact hn791_2) | (show (Addr.add _ _).block ≠ _; rw [add_block]; exact hn791_2) | exact hn791_2) (.string ((rd_T25 l0 x17_1).f2))).trans hx791_4; replace hx791_0 := (cell_far (p := ⟨gb790, 3, none⟩) (by first | (rw [add_block]; exact hn791_3) | (show (Addr.add _ _).block ≠ _; rw [add_block]; exact hn791_3) | exact hn791_3) (.string ((rd_T25 l0 x17_1).f3))).trans hx791_0; replace hx791_1 := (cell_far (p := ⟨gb790, 3, none⟩) (by first | (rw [add_block]; exact hn791_3) | (show (Addr.add _ _).block ≠ _; rw [add_block]; exact hn791_3) | exact hn791_3) (.string ((rd_T25 l0 x17_1).f3))).trans hx791_1; replace hx791_2 := (cell_far (p := ⟨gb790, 3, none⟩) (by first | (rw [add_block]; exact hn791_3) | (show (Addr.add _ _).block ≠ _; rw [add_block]; exact hn791_3) | exact hn791_3) (.string ((rd_T25 l0 x17_1).f3))).trans hx791_2; replace hx791_3 := (cell_far (p := ⟨gb790, 3, none⟩) (by first | (rw [add_block]; exact hn791_3) | (show (Addr.add _ _).block ≠ _; rw [add_block]; exact hn791_3) | exact hn791_3) (.string ((rd_T25 l0 x17_1).f3))).trans hx791_3; replace hx791_4 := (cell_far (p := ⟨gb790, 3, none⟩) (by first | (rw [add_block]; exact hn791_3) | (show (Addr.add _ _).block ≠ _; rw [add_block]; exact hn791_3) | exact hn791_3) (.string ((rd_T25 l0 x17_1).f3))).trans hx791_4; replace hx791_0 := (cell_far (p := ⟨gb790, 4, none⟩) (by first | (rw [add_block]; exact hn791_4) | (show (Addr.add _ _).block ≠ _; rw [add_block]; exact hn791_4) | exact hn791_4) (.slice A789_4 ((rd_T25 l0 x17_1).f4).length c789_4)).trans hx791_0; replace hx791_1 := (cell_far (p := ⟨gb790, 4, none⟩) (by first | (rw [add_block]; exact hn791_4) | (show (Addr.add _ _).block ≠ _; rw [add_block]; exact hn791_4) | exact hn791_4) (.slice A789_4 ((rd_T25 l0 x17_1).f4).length c789_4)).trans hx791_1; replace hx791_2 := (cell_far (p := ⟨gb790, 4, none⟩) (by first | (rw [add_block]; exact hn791_4) | (show (Addr.add _ _).block ≠ _; rw [add_block]; exact hn791_4) | exact hn791_4) (.slice A789_4 ((rd_T25 l0 x17_1).f4).length c789_4)).trans hx791_2; replace hx791_3 := (cell_far (p := ⟨gb790, 4, none⟩) (by first | (rw [add_block]; exact hn791_4) | (show (Addr.add _ _).block ≠ _; rw [add_block]; exact hn791_4) | exact hn791_4) (.slice A789_4 ((rd_T25 l0 x17_1).f4).length c789_4)).trans hx791_3; replace hx791_4 := (cell_far (p := ⟨gb790, 4, none⟩) (by first | (rw [add_block]; exact hn791_4) | (show (Addr.add _ _).block ≠ _; rw [add_block]; exact hn791_4) | exact hn791_4) (.slice A789_4 ((rd_T25 l0 x17_1).f4).length c789_4)).trans hx791_4; clear hn791_0; clear hn791_1; clear hn791_2; clear hn791_3; clear hn791_4; replace p791 := eq_true p791; replace q791 := eq_true q791) | ((with_reducible refine gD 9 rfl ?_); refine bx 9 #[.int .i64 0, .string (⟨#[]⟩ : ByteArray), .string (⟨#[]⟩ : ByteArray), .string (⟨#[]⟩ : ByteArray), .slice none 0 0] 25 ?_; intro gb792 hg w13 hbox hb; have BK792 := am hbox; have GW792 := am (geL hg (kL HB)); replace HB := am (below_step (kL HB) hb); have GE792 := GW792; have NB790_792 := am (neL hg (kM BK790)); have NB792_790 := am (neR hg (kM BK790)); replace BK790 := am (bB (g := gb790) (o := .cells #[.int .i64 ((rd_T25 l0 x17_1).f0), .string ((rd_T25 l0 x17_1).f1), .string ((rd_T25 l0 x17_1).f2), .string ((rd_T25 l0 x17_1).f3), .slice A789_4 ((rd_T25 l0 x17_1).f4).length c789_4] 25 (0, 0)) (kM BK790) hb); clear hb hbox hg; have hnb14 := NB792_790.out; have hnc14 := NB790_792.out; obtain ⟨hcz15_0, hcz15_1, hcz15_2, hcz15_3, hcz15_4, hfz15_0, hfz15_1, hfz15_2, hfz15_3, hfz15_4⟩ := bk5 BK792.out; obtain ⟨hcz16_0, hcz16_1, hcz16_2, hcz16_3, hcz16_4, hfz16_0, hfz16_1, hfz16_2, hfz16_3, hfz16_4⟩ := bk5 BK790.out) | ((with_reducible refine gate_calleeT rfl ?_); refine goesLT_ (some 29) rfl rfl Try.func46 (by kernel_rfl) rfl #[.agg #[.int .i64 ((rd_T25 l0 x17_1).f0), .string ((rd_T25 l0 x17_1).f1), .string ((rd_T25 l0 x17_1).f2), .string ((rd_T25 l0 x17_1).f3), .slice A789_4 ((rd_T25 l0 x17_1).f4).length c789_4], .agg #[.int .i64 ((rd_T25 l1 x17_1).f0), .string ((rd_T25 l1 x17_1).f1), .string ((rd_T25 l1 x17_1).f2), .string ((rd_T25 l1 x17_1).f3), .slice A791_4 ((rd_T25 l1 x17_1).f4).length c791_4]] rfl yA ?_; (with_reducible refine (tree_Same_1.calls _ _ _ _ _ _ _ _ _ _ _ _ _ _ _ _ _ ?side1 ?side2 ?side3 ?side4 A9.out).mono ?_); (case side1 => exact Kd.C_below HR789_4.out (kL HB)); (case side2 => exact HC789_4.out); (case side3 => exact Kd.C_below HR791_4.out (kL HB)); (case side4 => exact HC791_4.out); rintro e w17 ⟨rfl, hb⟩; refine ⟨_, rfl, ?_⟩; replace BK790 := am (bB (g := gb790) (o := .cells #[.int .i64 ((rd_T25 l0 x17_1).f0), .string ((rd_T25 l0 x17_1).f1), .string ((rd_T25 l0 x17_1).f2), .string ((rd_T25 l0 x17_1).f3), .slice A789_4 ((rd_T25 l0 x17_1).f4).length c789_4] 25 (0, 0)) (kM BK790) hb); replace BK792 := am (bB (g := gb792) (o := .cells #[.int .i64 ((rd_T25 l1 x17_1).f0), .string ((rd_T25 l1 x17_1).f1), .string ((rd_T25 l1 x17_1).f2), .string ((rd_T25 l1 x17_1).f3), .slice A791_4 ((rd_T25 l1 x17_1).f4).length c791_4] 25 (0, 0)) (kM BK792) hb); replace HB := am (below_step (kL HB) hb); (try clear hb)))
         go_roundg k1
         case measure => have := HK1.out; omega
         case rel => exact ⟨(wrap64 (x17_1 + 1)), yS, H', ⟨by have := HK1.out; omega⟩, ⟨(kL HB)⟩⟩
        ·replace c10 := Bool.eq_false_iff.mpr c10
         subst c10
         rw [if_neg (show ¬ (false = true) by decide)] at H
         obtain rfl := Option.some.inj H
         have p789 : 0 ≤ (x17_1 : Int) := of_decide_eq_true yY
         have q789 : x17_1 < (l0.length : Int) := of_decide_eq_true yY
         obtain ⟨ad789, A789_4, c789_4, e789, hx789_0, hx789_1, hx789_2, hx789_3, hx789_4, hl789_4, hi789_4⟩ := at_T25 HR0.out x17_1 p789 q789
         cases e789
         replace hx789_0 := (HB.out.cell (World.block_lt_of_cell? w _ hx789_0)).trans hx789_0
         replace hx789_1 := (HB.out.cell (World.block_lt_of_cell? w _ hx789_1)).trans hx789_1
         replace hx789_2 := (HB.out.cell (World.block_lt_of_cell? w _ hx789_2)).trans hx789_2
         replace hx789_3 := (HB.out.cell (World.block_lt_of_cell? w _ hx789_3)).trans hx789_3
         replace hx789_4 := (HB.out.cell (World.block_lt_of_cell? w _ hx789_4)).trans hx789_4
         have HR789_4 := am hi789_4
         have HC789_4 := am hl789_4
         clear hi789_4 hl789_4
         replace p789 := eq_true p789
         replace q789 := eq_true q789
         go_wp2_with (first | ((with_reducible refine gD 8 rfl ?_); refine bx 8 #[.int .i64 0, .string (⟨#[]⟩ : ByteArray), .string (⟨#[]⟩ : ByteArray), .string (⟨#[]⟩ : ByteArray), .slice none 0 0] 25 ?_; intro gb790 hg w18 hbox hb; have BK790 := am hbox; have GW790 := am (geL hg (kL HB)); replace HB := am (below_step (kL HB) hb); have GE790 := GW790; clear hb hbox hg; obtain ⟨hcz19_0, hcz19_1, hcz19_2, hcz19_3, hcz19_4, hfz19_0, hfz19_1, hfz19_2, hfz19_3, hfz19_4⟩ := bk5 BK790.out; have p791 : 0 ≤ (x17_1 : Int) := of_decide_eq_true yY; have q791 : x17_1 < (l1.length : Int) := of_decide_eq_true yY; obtain ⟨ad791, A791_4, c791_4, e791, hx791_0, hx791_1, hx791_2, hx791_3, hx791_4, hl791_4, hi791_4⟩ := at_T25 HR1.out x17_1 p791 q791; cases e791; have hn791_0 : ad791.block ≠ gb790 := Nat.ne_of_lt (Nat.lt_of_lt_of_le (by have := World.block_lt_of_cell? _ _ hx791_0; first | rwa [add_block] at this | exact this) GW790.out); have hn791_1 : ad791.block ≠ gb790 := Nat.ne_of_lt (Nat.lt_of_lt_of_le (by have := World.block_lt_of_cell? _ _ hx791_0; first | rwa [add_block] at this | exact this) GW790.out); have hn791_2 : ad791.block ≠ gb790 := Nat.ne_of_lt (Nat.lt_of_lt_of_le (by have := World.block_lt_of_cell? _ _ hx791_0; first | rwa [add_block] at this | exact this) GW790.out); have hn791_3 : ad791.block ≠ gb790 := Nat.ne_of_lt (Nat.lt_of_lt_of_le (by have := World.block_lt_of_cell? _ _ hx791_0; first | rwa [add_block] at this | exact this) GW790.out); have hn791_4 : ad791.block ≠ gb790 := Nat.ne_of_lt (Nat.lt_of_lt_of_le (by have := World.block_lt_of_cell? _ _ hx791_0; first | rwa [add_block] at this | exact this) GW790.out); replace hx791_0 := (HB.out.cell (World.block_lt_of_cell? w _ hx791_0)).trans hx791_0; replace hx791_1 := (HB.out.cell (World.block_lt_of_cell? w _ hx791_1)).trans hx791_1; replace hx791_2 := (HB.out.cell (World.block_lt_of_cell? w _ hx791_2)).trans hx791_2; replace hx791_3 := (HB.out.cell (World.block_lt_of_cell? w _ hx791_3)).trans hx791_3; replace hx791_4 := (HB.out.cell (World.block_lt_of_cell? w _ hx791_4)).trans hx791_4; have HR791_4 := am hi791_4; have HC791_4 := am hl791_4; clear hi791_4 hl791_4; replace hx791_0 := (cell_far (p := ⟨gb790, 0, none⟩) (by first | (rw [add_block]; exact hn791_0) | (show (Addr.add _ _).block ≠ _; rw [add_block]; exact hn791_0) | exact hn791_0) (.int .i64 ((rd_T25 l0 x17_1).f0))).trans hx791_0; replace hx791_1 := (cell_far (p := ⟨gb790, 0, none⟩) (by first | (rw [add_block]; exact hn791_0) | (show (Addr.add _ _).block ≠ _; rw [add_block]; exact hn791_0) | exact hn791_0) (.int .i64 ((rd_T25 l0 x17_1).f0))).trans hx791_1; replace hx791_2 := (cell_far (p := ⟨gb790, 0, none⟩) (by first | (rw [add_block]; exact hn791_0) | (show (Addr.add _ _).block ≠ _; rw [add_block]; exact hn791_0) | exact hn791_0) (.int .i64 ((rd_T25 l0 x17_1).f0))).trans hx791_2; replace hx791_3 := (cell_far (p := ⟨gb790, 0, none⟩) (by first | (rw [add_block]; exact hn791_0) | (show (Addr.add _ _).block ≠ _; rw [add_block]; exact hn791_0) | exact hn791_0) (.int .i64 ((rd_T25 l0 x17_1).f0))).trans hx791_3; replace hx791_4 := (cell_far (p := ⟨gb790, 0, none⟩) (by first | (rw [add_block]; exact hn791_0) | (show (Addr.add _ _).block ≠ _; rw [add_block]; exact hn791_0) | exact hn791_0) (.int .i64 ((rd_T25 l0 x17_1).f0))).trans hx791_4; replace hx791_0 := (cell_far (p := ⟨gb790, 1, none⟩) (by first | (rw [add_block]; exact hn791_1) | (show (Addr.add _ _).block ≠ _; rw [add_block]; exact hn791_1) | exact hn791_1) (.string ((rd_T25 l0 x17_1).f1))).trans hx791_0; replace hx791_1 := (cell_far (p := ⟨gb790, 1, none⟩) (by first | (rw [add_block]; exact hn791_1) | (show (Addr.add _ _).block ≠ _; rw [add_block]; exact hn791_1) | exact hn791_1) (.string ((rd_T25 l0 x17_1).f1))).trans hx791_1; replace hx791_2 := (cell_far (p := ⟨gb790, 1, none⟩) (by first | (rw [add_block]; exact hn791_1) | (show (Addr.add _ _).block ≠ _; rw [add_block]; exact hn791_1) | exact hn791_1) (.string ((rd_T25 l0 x17_1).f1))).trans hx791_2; replace hx791_3 := (cell_far (p := ⟨gb790, 1, none⟩) (by first | (rw [add_block]; exact hn791_1) | (show (Addr.add _ _).block ≠ _; rw [add_block]; exact hn791_1) | exact hn791_1) (.string ((rd_T25 l0 x17_1).f1))).trans hx791_3; replace hx791_4 := (cell_far (p := ⟨gb790, 1, none⟩) (by first | (rw [add_block]; exact hn791_1) | (show (Addr.add _ _).block ≠ _; rw [add_block]; exact hn791_1) | exact hn791_1) (.string ((rd_T25 l0 x17_1).f1))).trans hx791_4; replace hx791_0 := (cell_far (p := ⟨gb790, 2, none⟩) (by first | (rw [add_block]; exact hn791_2) | (show (Addr.add _ _).block ≠ _; rw [add_block]; exact hn791_2) | exact hn791_2) (.string ((rd_T25 l0 x17_1).f2))).trans hx791_0; replace hx791_1 := (cell_far (p := ⟨gb790, 2, none⟩) (by first | (rw [add_block]; exact hn791_2) | (show (Addr.add _ _).block ≠ _; rw [add_block]; exact hn791_2) | exact hn791_2) (.string ((rd_T25 l0 x17_1).f2))).trans hx791_1; replace hx791_2 := (cell_far (p := ⟨gb790, 2, none⟩) (by first | (rw [add_block]; exact hn791_2) | (show (Addr.add _ _).block ≠ _; rw [add_block]; exact hn791_2) | exact hn791_2) (.string ((rd_T25 l0 x17_1).f2))).trans hx791_2; replace hx791_3 := (cell_far (p := ⟨gb790, 2, none⟩) (by first | (rw [add_block]; exact hn791_2) | (show (Addr.add _ _).block ≠ _; rw [add_block]; exact hn791_2) | exact hn791_2) (.string ((rd_T25 l0 x17_1).f2))).trans hx791_3; replace hx791_4 := (cell_far (p := ⟨gb790, 2, none⟩) (by first | (rw [add_block]; exact hn791_2) | (show (Addr.add _ _).block ≠ _; rw [add_block]; exact hn791_2) | exact hn791_2) (.string ((rd_T25 l0 x17_1).f2))).trans hx791_4; replace hx791_0 := (cell_far (p := ⟨gb790, 3, none⟩) (by first | (rw [add_block]; exact hn791_3) | (show (Addr.add _ _).block ≠ _; rw [add_block]; exact hn791_3) | exact hn791_3) (.string ((rd_T25 l0 x17_1).f3))).trans hx791_0; replace hx791_1 := (cell_far (p := ⟨gb790, 3, none⟩) (by first | (rw [add_block]; exact hn791_3) | (show (Addr.add _ _).block ≠ _; rw [add_block]; exact hn791_3) | exact hn791_3) (.string ((rd_T25 l0 x17_1).f3))).trans hx791_1; replace hx791_2 := (cell_far (p := ⟨gb790, 3, none⟩) (by first | (rw [add_block]; exact hn791_3) | (show (Addr.add _ _).block ≠ _; rw [add_block]; exact hn791_3) | exact hn791_3) (.string ((rd_T25 l0 x17_1).f3))).trans hx791_2; replace hx791_3 := (cell_far (p := ⟨gb790, 3, none⟩) (by first | (rw [add_block]; exact hn791_3) | (show (Addr.add _ _).block ≠ _; rw [add_block]; exact hn791_3) | exact hn791_3) (.string ((rd_T25 l0 x17_1).f3))).trans hx791_3; replace hx791_4 := (cell_far (p := ⟨gb790, 3, none⟩) (by first | (rw [add_block]; exact hn791_3) | (show (Addr.add _ _).block ≠ _; rw [add_block]; exact hn791_3) | exact hn791_3) (.string ((rd_T25 l0 x17_1).f3))).trans hx791_4; replace hx791_0 := (cell_far (p := ⟨gb790, 4, none⟩) (by first | (rw [add_block]; exact hn791_4) | (show (Addr.add _ _).block ≠ _; rw [add_block]; exact hn791_4) | exact hn791_4) (.slice A789_4 ((rd_T25 l0 x17_1).f4).length c789_4)).trans hx791_0; replace hx791_1 := (cell_far (p := ⟨gb790, 4, none⟩) (by first | (rw [add_block]; exact hn791_4) | (show (Addr.add _ _).block ≠ _; rw [add_block]; exact hn791_4) | exact hn791_4) (.slice A789_4 ((rd_T25 l0 x17_1).f4).length c789_4)).trans hx791_1; replace hx791_2 := (cell_far (p := ⟨gb790, 4, none⟩) (by first | (rw [add_block]; exact hn791_4) | (show (Addr.add _ _).block ≠ _; rw [add_block]; exact hn791_4) | exact hn791_4) (.slice A789_4 ((rd_T25 l0 x17_1).f4).length c789_4)).trans hx791_2; replace hx791_3 := (cell_far (p := ⟨gb790, 4, none⟩) (by first | (rw [add_block]; exact hn791_4) | (show (Addr.add _ _).block ≠ _; rw [add_block]; exact hn791_4) | exact hn791_4) (.slice A789_4 ((rd_T25 l0 x17_1).f4).length c789_4)).trans hx791_3; replace hx791_4 := (cell_far (p := ⟨gb790, 4, none⟩) (by first | (rw [add_block]; exact hn791_4) | (show (Addr.add _ _).block ≠ _; rw [add_block]; exact hn791_4) | exact hn791_4) (.slice A789_4 ((rd_T25 l0 x17_1).f4).length c789_4)).trans hx791_4; clear hn791_0; clear hn791_1; clear hn791_2; clear hn791_3; clear hn791_4; replace p791 := eq_true p791; replace q791 := eq_true q791) | ((with_reducible refine gD 9 rfl ?_); refine bx 9 #[.int .i64 0, .string (⟨#[]⟩ : ByteArray), .string (⟨#[]⟩ : ByteArray), .string (⟨#[]⟩ : ByteArray), .slice none 0 0] 25 ?_; intro gb792 hg w20 hbox hb; have BK792 := am hbox; have GW792 := am (geL hg (kL HB)); replace HB := am (below_step (kL HB) hb); have GE792 := GW792; have NB790_792 := am (neL hg (kM BK790)); have NB792_790 := am (neR hg (kM BK790)); replace BK790 := am (bB (g := gb790) (o := .cells #[.int .i64 ((rd_T25 l0 x17_1).f0), .string ((rd_T25 l0 x17_1).f1), .string ((rd_T25 l0 x17_1).f2), .string ((rd_T25 l0 x17_1).f3), .slice A789_4 ((rd_T25 l0 x17_1).f4).length c789_4] 25 (0, 0)) (kM BK790) hb); clear hb hbox hg; have hnb21 := NB792_790.out; have hnc21 := NB790_792.out; obtain ⟨hcz22_0, hcz22_1, hcz22_2, hcz22_3, hcz22_4, hfz22_0, hfz22_1, hfz22_2, hfz22_3, hfz22_4⟩ := bk5 BK792.out; obtain ⟨hcz23_0, hcz23_1, hcz23_2, hcz23_3, hcz23_4, hfz23_0, hfz23_1, hfz23_2, hfz23_3, hfz23_4⟩ := bk5 BK790.out) | ((with_reducible refine gate_calleeT rfl ?_); refine goesLT_ (some 29) rfl rfl Try.func46 (by kernel_rfl) rfl #[.agg #[.int .i64 ((rd_T25 l0 x17_1).f0), .string ((rd_T25 l0 x17_1).f1), .string ((rd_T25 l0 x17_1).f2), .string ((rd_T25 l0 x17_1).f3), .slice A789_4 ((rd_T25 l0 x17_1).f4).length c789_4], .agg #[.int .i64 ((rd_T25 l1 x17_1).f0), .string ((rd_T25 l1 x17_1).f1), .string ((rd_T25 l1 x17_1).f2), .string ((rd_T25 l1 x17_1).f3), .slice A791_4 ((rd_T25 l1 x17_1).f4).length c791_4]] rfl yA ?_; (with_reducible refine (tree_Same_1.calls _ _ _ _ _ _ _ _ _ _ _ _ _ _ _ _ _ ?side1 ?side2 ?side3 ?side4 A9.out).mono ?_); (case side1 => exact Kd.C_below HR789_4.out (kL HB)); (case side2 => exact HC789_4.out); (case side3 => exact Kd.C_below HR791_4.out (kL HB)); (case side4 => exact HC791_4.out); rintro e w24 ⟨rfl, hb⟩; refine ⟨_, rfl, ?_⟩; replace BK790 := am (bB (g := gb790) (o := .cells #[.int .i64 ((rd_T25 l0 x17_1).f0), .string ((rd_T25 l0 x17_1).f1), .string ((rd_T25 l0 x17_1).f2), .string ((rd_T25 l0 x17_1).f3), .slice A789_4 ((rd_T25 l0 x17_1).f4).length c789_4] 25 (0, 0)) (kM BK790) hb); replace BK792 := am (bB (g := gb792) (o := .cells #[.int .i64 ((rd_T25 l1 x17_1).f0), .string ((rd_T25 l1 x17_1).f1), .string ((rd_T25 l1 x17_1).f2), .string ((rd_T25 l1 x17_1).f3), .slice A791_4 ((rd_T25 l1 x17_1).f4).length c791_4] 25 (0, 0)) (kM BK792) hb); replace HB := am (below_step (kL HB) hb); (try clear hb)))
         go_ret
         exact ⟨yE, (kL HB)⟩
       ·rw [if_neg c8] at H
        exact absurd H (by simp)
      ·rw [if_neg c7] at H
       exact absurd H (by simp)
     ·rw [if_neg c6] at H
      exact absurd H (by simp)
    ·rw [if_neg c5] at H
     have c5b0 : decide (x17_1 < (l0.length : Int)) = false := decide_eq_false c5
     clear c5
     obtain rfl := Option.some.inj H
     go_wp2
     go_ret
     exact ⟨yE, (kL HB)⟩
 ·rw [if_neg c4] at H
  have c4b0 := eF c4
  have c4b1 := nT c4
  have c4b2 : (l0.length == l1.length) = false := by first | simpa using c4 | (simp at c4 ⊢; omega)
  obtain rfl := Option.some.inj H
  go_enter Try.func45, Try.ntmps45
  go_wp2
  go_ret
  exact ⟨yE, (kL HB)⟩
def tree_Same.f (k : Nat) (l0 : List (S25)) (l1 : List (S25)) : Option (Bool) := (api_Node_45.f k l0 l1).bind fun t794 => (some t794)
theorem tree_Same.mono : ∀ a0 a1 k, LeO (tree_Same.f k a0 a1) (tree_Same.f (k + 1) a0 a1) := by
 intro a0 a1 k
 unfold tree_Same.f
 repeat' first
   | (with_reducible exact api_Node_45.mono _ _ _)
   | (with_reducible exact LeO.refl _)
   | (with_reducible exact LeO.none _)
   | (with_reducible refine LeO.ite ?_ ?_)
   | (with_reducible refine LeO.bind ?_ (fun _ => ?_))
   | exact api_Node_45.mono _ _ _
   | exact LeO.none _
   | refine LeO.ite ?_ ?_
   | refine LeO.bind ?_ (fun _ => ?_)
set_option maxHeartbeats 8000000 in
set_option maxRecDepth 100000 in
theorem tree_Same.calls (k : Nat) (A0 : Option Addr) (c0 : Nat) (l0 : List (S25)) (A1 : Option Addr) (c1 : Nat) (l1 : List (S25)) (r : Bool) (w : World) (hr0 : Kd.C k25 w A0 l0.length l0) (hc0 : l0.length ≤ c0) (hr1 : Kd.C k25 w A1 l1.length l1) (hc1 : l1.length ≤ c1) (h : tree_Same.f k l0 l1 = some r) :
  Calls Try.prog 30 #[.slice A0 l0.length c0, .slice A1 l1.length c1] w fun e w' => e = .returned (.bool r) ∧ Below w.heap.size w w' := by
 have HR0 := am hr0
 have HC0 := am hc0
 clear hr0 hc0
 have HR1 := am hr1
 have HC1 := am hc1
 clear hr1 hc1
 have HB := am (Below.refl w.heap.size w)
 have H : ((api_Node_45.f k l0 l1).bind fun t794 => (some t794)) = some r := h
 clear h
 replace H := Option.bind_eq_some_iff.mp H
 obtain ⟨t794, A30, H⟩ := H
 try dsimp only at H
 have A3 := am A30
 clear A30
 obtain rfl := Option.some.inj H
 go_enter Try.func30, Try.ntmps30
 go_wp2_with ((with_reducible refine gC 45 rfl ?_); refine gL (some 7) Try.func45 #[.slice A0 l0.length c0, .slice A1 l1.length c1, .func (.func 46) #[] #[]] ?_; (with_reducible refine (api_Node_45.calls _ _ _ _ _ _ _ _ _ ?side1 ?side2 ?side3 ?side4 A3.out).mono ?_); (case side1 => repeat (first | exact HR0.out | (with_reducible refine Kd.C_alloc ?_ _) | (with_reducible refine Kd.C_drewN ?_ _) | (with_reducible refine Kd.C_drew ?_))); (case side2 => exact HC0.out); (case side3 => repeat (first | exact HR1.out | (with_reducible refine Kd.C_alloc ?_ _) | (with_reducible refine Kd.C_drewN ?_ _) | (with_reducible refine Kd.C_drew ?_))); (case side4 => exact HC1.out); rintro e w4 ⟨rfl, hb⟩; refine ⟨_, rfl, ?_⟩; replace HB := am (below_step (kL HB) hb); (try clear hb))
 go_ret
 exact ⟨yE, (kL HB)⟩
end Go.Proofs.Ytdelccahgchadaa.P
end
section
namespace Go.Proofs.Ytdelccahgchadaa
open Go.RowKit Go.Lib Go.Proofs.Ytdelccahgchadaa.P Go.Proofs.YtdelccahgchadaaW.PrintWords Go.Proofs.YtdelccahgchadaaW.PrintMore
set_option linter.unusedVariables false
abbrev Bs := List UInt8
abbrev L (s : ByteArray) : Bs := s.data.toList
theorem L_size (s : ByteArray) : s.size = (L s).length := by simp
theorem L_append (a b : ByteArray) : L (a ++ b) = L a ++ L b := by simp
theorem L_ext {a b : ByteArray} (h : L a = L b) : a = b := by
 cases a; cases b; congr 1; exact Array.toList_inj.1 h
theorem L_mk (l : Bs) : L ⟨l.toArray⟩ = l := rfl
theorem L_extract (s : ByteArray) (a b : Nat) : L (s.extract a b) = ((L s).drop a).take (b - a) := Lib.extract_data s a b
theorem L_end (s : ByteArray) (a : Nat) : L (s.extract a s.size) = (L s).drop a := Lib.extract_to_end s a
theorem L_bt (s : ByteArray) (i : Nat) (h : i < (L s).length) : bt s (i : Int) = ((L s)[i].toNat : Int) := by
 unfold bt
 rw [dif_pos (by simpa using h)]
 rfl
theorem toList_L (s : ByteArray) : s.toList = L s := Go.ByteArray.toList_eq s
def trimC (c : UInt8) : Bs → Bs
 | [] => []
 | x :: l => if x = c then l else x :: l
theorem trimC_eq (c : UInt8) (l : Bs) : Lib.trimPrefix l [c] = trimC c l := by
 unfold Lib.trimPrefix Lib.hasPrefix
 cases l with
 | nil => rfl
 | cons x l =>
  by_cases h : x = c
  ·subst h; simp [trimC]
  ·have h2 : ¬ c = x := fun h2 => h h2.symm
   simp [trimC, h, h2]
def runL (p : Int → Bool) (l : Bs) : Nat := (l.takeWhile fun c => p (c.toNat : Int)).length
theorem runN_eq (p : Int → Bool) (s : ByteArray) : Ytdelccahgchadaa.P.runN p s = runL p (L s) := rfl
theorem runL_le (p : Int → Bool) (l : Bs) : runL p l ≤ l.length := by
 unfold runL
 exact List.Sublist.length_le (List.takeWhile_sublist _)
theorem runL_cons (p : Int → Bool) (c : UInt8) (l : Bs) : runL p (c :: l) = if p (c.toNat : Int) = true then runL p l + 1 else 0 := by
 unfold runL
 rw [List.takeWhile_cons]
 split <;> simp
theorem runL_append_stop (p : Int → Bool) (l m : Bs) (c : UInt8) (hc : p (c.toNat : Int) = false) : runL p (l ++ c :: m) = runL p l := by
 induction l with
 | nil => rw [List.nil_append, runL_cons, hc]; rfl
 | cons x l ih =>
  rw [List.cons_append, runL_cons, runL_cons, ih]
theorem runL_take (p : Int → Bool) (l : Bs) (n : Nat) (h : runL p l ≤ n) : runL p (l.take n) = runL p l := by
 induction l generalizing n with
 | nil => simp
 | cons x l ih =>
  rw [runL_cons] at h
  rw [runL_cons]
  by_cases hp : p (x.toNat : Int) = true
  ·rw [if_pos hp] at h ⊢
   obtain ⟨n, rfl⟩ : ∃ m, n = m + 1 := ⟨n - 1, by omega⟩
   rw [List.take_succ_cons, runL_cons, if_pos hp, ih n (by omega)]
  ·rw [if_neg hp]
   cases n with
   | zero => rfl
   | succ n => rw [List.take_succ_cons, runL_cons, if_neg hp]
theorem runL_all (p : Int → Bool) (l : Bs) : runL p l = l.length ↔ l.all (fun c => p (c.toNat : Int)) = true := by
 induction l with
 | nil => simp [runL]
 | cons x l ih =>
  rw [runL_cons, List.all_cons]
  by_cases hp : p (x.toNat : Int) = true
  ·rw [if_pos hp, hp, Bool.true_and, ← ih, List.length_cons]; omega
  ·rw [if_neg hp]
   have : p (x.toNat : Int) = false := by simpa using hp
   rw [this, Bool.false_and, List.length_cons]
   constructor
   ·intro h; omega
   ·intro h; cases h
def figs (l : Bs) : Bool := l.all isFig
theorem isFig_isD (c : UInt8) : isFig c = isD (c.toNat : Int) := by
 unfold isFig isD
 rw [Bool.eq_iff_iff]
 simp
 omega
theorem figs_run (l : Bs) : figs l = true ↔ runL isD l = l.length := by
 rw [runL_all]
 unfold figs
 have : isFig = fun c : UInt8 => isD (c.toNat : Int) := funext isFig_isD
 rw [this]
def mayB (l : Bs) : Bool :=
 let f := trimC 45 l
 decide (1 ≤ f.length) && decide (f.length ≤ 100) && (!(f.head? == some 48) || l == [48]) && figs f
def numberL (l : Bs) : Option Bs :=
 let f := trimC 95 l
 let n := if f = l then f else 45 :: f
 if figs f && mayB n then some n else none
def signsL : Bs := [43, 45, 42, 37, 33, 38, 124, 60, 62, 61, 126, 44, 35, 94, 36, 63, 64]
def advsL : Bs := [39, 47, 92, 46, 96]
def marksL : Bs := [40, 41, 91, 93, 123, 125, 58]
def firstL (l : Bs) : Nat × Nat :=
 match l with
 | [] => (0, 0)
 | c :: _ =>
  if isLow (c.toNat : Int) = true then (2, runL isWordC l)
  else if isUp (c.toNat : Int) = true then (3, runL isVerbC l)
  else if signsL.contains c then (4, 1)
  else if advsL.contains c then (5, 1)
  else if marksL.contains c then (6, 1)
  else let f := trimC 95 l
   let n := l.length - f.length + runL isD f
   if (numberL (l.take n)).isSome then (1, n) else (0, 0)
structure Tk where
 kind : Nat
 text : Bs
 pos : Nat
deriving DecidableEq
def lexF : Nat → Nat → Bs → Nat ⊕ List Tk
 | 0, p, _ => .inl p
 | _ + 1, _, [] => .inr []
 | f + 1, p, c :: l =>
  if c = 32 then lexF f (p + 1) l
  else
   let k := (firstL (c :: l)).1
   let n := (firstL (c :: l)).2
   if k = 0 then .inl p
   else match lexF f (p + n) ((c :: l).drop n) with
    | .inl e => .inl e
    | .inr ts => .inr (⟨k, (c :: l).take n, p⟩ :: ts)
theorem trimC_len (c : UInt8) (l : Bs) : (trimC c l).length ≤ l.length ∧ l.length ≤ (trimC c l).length + 1 := by
 cases l with
 | nil => simp [trimC]
 | cons x l =>
  by_cases h : x = c
  ·simp [trimC, h]
  ·simp [trimC, h]
theorem runL_pos (p : Int → Bool) (c : UInt8) (l : Bs) (h : p (c.toNat : Int) = true) : 1 ≤ runL p (c :: l) := by
 rw [runL_cons, if_pos h]; omega
theorem low_word {c : Int} (h : isLow c = true) : isWordC c = true := by unfold isWordC; rw [h]; rfl
theorem up_verb {c : Int} (h : isUp c = true) : isVerbC c = true := by unfold isVerbC; rw [h]; simp
theorem numberL_take_pos {l : Bs} {n : Nat} (h : (numberL (l.take n)).isSome = true) : 1 ≤ n := by
 cases n with
 | zero => rw [List.take_zero] at h; revert h; decide
 | succ n => omega
theorem firstL_bounds (c : UInt8) (l : Bs) (h : (firstL (c :: l)).1 ≠ 0) : 1 ≤ (firstL (c :: l)).2 ∧ (firstL (c :: l)).2 ≤ (c :: l).length ∧ (firstL (c :: l)).1 ≤ 6 := by
 unfold firstL at h ⊢
 simp only [] at h ⊢
 by_cases h1 : isLow (c.toNat : Int) = true
 ·rw [if_pos h1]; exact ⟨runL_pos _ _ _ (low_word h1), runL_le _ _, by simp⟩
 ·rw [if_neg h1] at h ⊢
  by_cases h2 : isUp (c.toNat : Int) = true
  ·rw [if_pos h2]; exact ⟨runL_pos _ _ _ (up_verb h2), runL_le _ _, by simp⟩
  ·rw [if_neg h2] at h ⊢
   by_cases h3 : signsL.contains c = true
   ·rw [if_pos h3]; simp
   ·rw [if_neg h3] at h ⊢
    by_cases h4 : advsL.contains c = true
    ·rw [if_pos h4]; simp
    ·rw [if_neg h4] at h ⊢
     by_cases h5 : marksL.contains c = true
     ·rw [if_pos h5]; simp
     ·rw [if_neg h5] at h ⊢
      by_cases h6 : (numberL ((c :: l).take ((c :: l).length - (trimC 95 (c :: l)).length + runL isD (trimC 95 (c :: l))))).isSome = true
      ·rw [if_pos h6]
       have a := trimC_len 95 (c :: l)
       have b := runL_le isD (trimC 95 (c :: l))
       exact ⟨numberL_take_pos h6, by simp only []; omega, by simp⟩
      ·rw [if_neg h6] at h; exact absurd rfl h
end Go.Proofs.Ytdelccahgchadaa
end
section
namespace Go.Proofs.Ytdelccahgchadaa
open Go.RowKit Go.Lib Go.Proofs.Ytdelccahgchadaa.P Go.Proofs.YtdelccahgchadaaW.PrintWords Go.Proofs.YtdelccahgchadaaW.PrintMore
set_option linter.unusedVariables false
deriving instance DecidableEq for Sum
theorem lexF_fuel : ∀ (m m' p : Nat) (l : Bs), l.length < m → l.length < m' → lexF m p l = lexF m' p l := by
 intro m
 induction m with
 | zero => intro m' p l h; omega
 | succ m ih =>
  intro m' p l h h'
  obtain ⟨m', rfl⟩ : ∃ j, m' = j + 1 := ⟨m' - 1, by omega⟩
  cases l with
  | nil => rfl
  | cons c l =>
   simp only [lexF]
   rw [List.length_cons] at h h'
   by_cases hc : c = 32
   ·rw [if_pos hc, if_pos hc]; exact ih m' _ l (by omega) (by omega)
   ·rw [if_neg hc, if_neg hc]
    by_cases hk : (firstL (c :: l)).1 = 0
    ·rw [if_pos hk, if_pos hk]
    ·rw [if_neg hk, if_neg hk]
     have hb := firstL_bounds c l hk
     rw [ih m' (p + (firstL (c :: l)).2) ((c :: l).drop (firstL (c :: l)).2) (by rw [List.length_drop, List.length_cons]; omega) (by rw [List.length_drop, List.length_cons]; omega)]
def shiftT (d : Nat) (t : Tk) : Tk := ⟨t.kind, t.text, t.pos + d⟩
theorem lexF_shift (d : Nat) : ∀ (m p : Nat) (l : Bs), lexF m (p + d) l = (match lexF m p l with | .inl e => .inl (e + d) | .inr ts => .inr (ts.map (shiftT d))) := by
 intro m
 induction m with
 | zero => intro p l; rfl
 | succ m ih =>
  intro p l
  cases l with
  | nil => rfl
  | cons c l =>
   simp only [lexF]
   by_cases hc : c = 32
   ·rw [if_pos hc, if_pos hc, show p + d + 1 = (p + 1) + d by omega]; exact ih _ _
   ·rw [if_neg hc, if_neg hc]
    by_cases hk : (firstL (c :: l)).1 = 0
    ·rw [if_pos hk, if_pos hk]
    ·rw [if_neg hk, if_neg hk, show p + d + (firstL (c :: l)).2 = (p + (firstL (c :: l)).2) + d by omega, ih]
     cases lexF m (p + (firstL (c :: l)).2) ((c :: l).drop (firstL (c :: l)).2) with
     | inl e => rfl
     | inr ts => rfl
def lexL (l : Bs) : Nat ⊕ List Tk := lexF (l.length + 1) 0 l
theorem first_cut (c : UInt8) (l : Bs) (h : (firstL (c :: l)).1 ≠ 0) : firstL ((c :: l).take (firstL (c :: l)).2) = firstL (c :: l) := by
 obtain ⟨k, hk⟩ : ∃ k, (firstL (c :: l)).1 = k := ⟨_, rfl⟩
 obtain ⟨n, hn⟩ : ∃ n, (firstL (c :: l)).2 = n := ⟨_, rfl⟩
 have hb := firstL_bounds c l h
 have hkn : firstL (c :: l) = (k, n) := by rw [← hk, ← hn]
 rw [hkn]
 rw [hn] at hb
 simp only []
 obtain ⟨j, rfl⟩ : ∃ j, n = j + 1 := ⟨n - 1, by omega⟩
 rw [List.take_succ_cons]
 unfold firstL at hkn ⊢
 simp only [] at hkn ⊢
 by_cases h1 : isLow (c.toNat : Int) = true
 ·rw [if_pos h1] at hkn ⊢
  injection hkn with e1 e2
  rw [← e1, ← List.take_succ_cons, runL_take _ _ _ (by omega), e2]
 ·rw [if_neg h1] at hkn ⊢
  by_cases h2 : isUp (c.toNat : Int) = true
  ·rw [if_pos h2] at hkn ⊢
   injection hkn with e1 e2
   rw [← e1, ← List.take_succ_cons, runL_take _ _ _ (by omega), e2]
  ·rw [if_neg h2] at hkn ⊢
   by_cases h3 : signsL.contains c = true
   ·rw [if_pos h3] at hkn ⊢; exact hkn
   ·rw [if_neg h3] at hkn ⊢
    by_cases h4 : advsL.contains c = true
    ·rw [if_pos h4] at hkn ⊢; exact hkn
    ·rw [if_neg h4] at hkn ⊢
     by_cases h5 : marksL.contains c = true
     ·rw [if_pos h5] at hkn ⊢; exact hkn
     ·rw [if_neg h5] at hkn ⊢
      by_cases h6 : (numberL ((c :: l).take ((c :: l).length - (trimC 95 (c :: l)).length + runL isD (trimC 95 (c :: l))))).isSome = true
      ·rw [if_pos h6] at hkn
       injection hkn with e1 e2
       rw [e2] at h6
       have hj : j ≤ l.length := by rw [List.length_cons] at hb; omega
       have hr := runL_le isD (trimC 95 (c :: l))
       have key : (c :: l.take j).length - (trimC 95 (c :: l.take j)).length + runL isD (trimC 95 (c :: l.take j)) = j + 1 := by
        by_cases hc : c = 95
        ·have t1 : trimC 95 (c :: l) = l := by simp [trimC, hc]
         have t2 : trimC 95 (c :: l.take j) = l.take j := by simp [trimC, hc]
         rw [t1, List.length_cons] at e2
         rw [t2, List.length_cons, runL_take _ _ _ (by omega), List.length_take, Nat.min_eq_left hj]
         omega
        ·have t1 : trimC 95 (c :: l) = c :: l := by simp [trimC, hc]
         have t2 : trimC 95 (c :: l.take j) = c :: l.take j := by simp [trimC, hc]
         rw [t1] at e2
         rw [t2, ← List.take_succ_cons, runL_take _ _ _ (by omega)]
         omega
       rw [key]
       have e7 : (c :: l.take j).take (j + 1) = (c :: l).take (j + 1) := by
        rw [← List.take_succ_cons, List.take_take, Nat.min_self]
       rw [e7, if_pos h6, ← e1]
      ·rw [if_neg h6] at hkn
       injection hkn with e1 e2
       exact absurd (hk.trans e1.symm) h
def Part (t : Tk) : Prop := firstL t.text = (t.kind, t.text.length) ∧ 1 ≤ t.kind ∧ t.kind ≤ 6 ∧ t.text ≠ [] ∧ t.text.head? ≠ some 32
def Chain (all : Bs) : Nat → List Tk → Prop
 | _, [] => True
 | e, t :: ts => e ≤ t.pos ∧ t.pos + t.text.length ≤ all.length ∧ (all.drop t.pos).take t.text.length = t.text ∧ Part t ∧ Chain all (t.pos + t.text.length) ts
theorem chain_le {all : Bs} {e e' : Nat} {ts : List Tk} (h : Chain all e ts) (he : e' ≤ e) : Chain all e' ts := by
 cases ts with
 | nil => trivial
 | cons t ts => exact ⟨Nat.le_trans he h.1, h.2⟩
theorem lexF_chain (all : Bs) : ∀ (m p : Nat), p ≤ all.length → all.length - p < m → (match lexF m p (all.drop p) with | .inl e => e ≤ all.length | .inr ts => Chain all p ts ∧ ts.length ≤ all.length - p ∧ (ts.map (·.text.length)).sum ≤ all.length - p) := by
 intro m
 induction m with
 | zero => intro p _ h; omega
 | succ m ih =>
  intro p hp hm
  cases hl : all.drop p with
  | nil => simp only [lexF]; exact ⟨trivial, by simp, by simp⟩
  | cons c l =>
   have hlen : all.length - p = l.length + 1 := by rw [← List.length_drop, hl, List.length_cons]
   simp only [lexF]
   by_cases hc : c = 32
   ·rw [if_pos hc]
    have hd : all.drop (p + 1) = l := by rw [← List.drop_drop, hl]; rfl
    have := ih (p + 1) (by omega) (by omega)
    rw [hd] at this
    revert this
    cases lexF m (p + 1) l with
    | inl e => exact id
    | inr ts => simp only []; exact fun h => ⟨chain_le h.1 (by omega), by omega, by omega⟩
   ·rw [if_neg hc]
    by_cases hk : (firstL (c :: l)).1 = 0
    ·rw [if_pos hk]; exact hp
    ·rw [if_neg hk]
     have hb := firstL_bounds c l hk
     have hcut := first_cut c l hk
     obtain ⟨k, hk'⟩ : ∃ k, (firstL (c :: l)).1 = k := ⟨_, rfl⟩
     obtain ⟨n, hn⟩ : ∃ n, (firstL (c :: l)).2 = n := ⟨_, rfl⟩
     have hkn : firstL (c :: l) = (k, n) := by rw [← hk', ← hn]
     rw [hkn] at hb hcut ⊢
     rw [hkn] at hk
     simp only [List.length_cons] at hb hcut hk ⊢
     have hd : all.drop (p + n) = (c :: l).drop n := by rw [← List.drop_drop, hl]
     have := ih (p + n) (by omega) (by omega)
     rw [hd] at this
     have htl : ((c :: l).take n).length = n := by rw [List.length_take, List.length_cons]; omega
     revert this
     cases lexF m (p + n) ((c :: l).drop n) with
     | inl e => exact id
     | inr ts =>
      simp only []
      intro h
      refine ⟨⟨Nat.le_refl _, ?_, ?_, ⟨?_, ?_, hb.2.2, ?_, ?_⟩, ?_⟩, ?_, ?_⟩
      ·simp only [htl]; omega
      ·simp only [htl, hl]
      ·simp only [htl]; exact hcut
      ·simp only []; omega
      ·simp only []; intro h0; rw [h0] at htl; simp at htl; omega
      ·simp only []
       obtain ⟨j, rfl⟩ : ∃ j, n = j + 1 := ⟨n - 1, by omega⟩
       rw [List.take_succ_cons]
       simpa using hc
      ·simp only [htl]; exact h.1
      ·rw [List.length_cons]; omega
      ·rw [List.map_cons, List.sum_cons, htl]; omega
theorem lexF_part (t : Tk) (h : Part t) (m p : Nat) (hm : t.text.length < m) : lexF m p t.text = .inr [⟨t.kind, t.text, p⟩] := by
 obtain ⟨h1, h2, h3, h4, h5⟩ := h
 obtain ⟨m, rfl⟩ : ∃ j, m = j + 1 := ⟨m - 1, by omega⟩
 cases ht : t.text with
 | nil => exact absurd ht h4
 | cons c l =>
  rw [ht] at h1 h5 hm
  have hc : c ≠ 32 := by intro h; exact h5 (by rw [h]; rfl)
  simp only [lexF]
  rw [if_neg hc, h1]
  simp only []
  rw [if_neg (by omega), List.drop_length]
  obtain ⟨m, rfl⟩ : ∃ j, m = j + 1 := ⟨m - 1, by rw [List.length_cons] at hm; omega⟩
  simp only [lexF, List.take_length]
end Go.Proofs.Ytdelccahgchadaa
end
section
namespace Go.Proofs.Ytdelccahgchadaa
open Go.RowKit Go.Proofs.YtdelccahgchadaaW.PrintWords Go.Proofs.YtdelccahgchadaaW.PrintMore
theorem wrap_id {a : Int} (h : -9223372036854775808 ≤ a) (h2 : a ≤ 9223372036854775807) : wrap64 a = a := by unfold wrap64; omega
end Go.Proofs.Ytdelccahgchadaa
end
section
namespace Go.Proofs.Ytdelccahgchadaa
open Go.RowKit Go.Lib Go.Proofs.Ytdelccahgchadaa.P Go.Proofs.YtdelccahgchadaaW.PrintWords Go.Proofs.YtdelccahgchadaaW.PrintMore
set_option linter.unusedVariables false
abbrev mkB (l : Bs) : ByteArray := ⟨l.toArray⟩
theorem mkB_L (s : ByteArray) : mkB (L s) = s := L_ext rfl
theorem trimP (s : ByteArray) (c : UInt8) : strings_TrimPrefix.f s ⟨#[c]⟩ = some (mkB (trimC c (L s))) := by
 unfold strings_TrimPrefix.f
 have : (⟨#[c]⟩ : ByteArray).data.toList = [c] := rfl
 rw [this, trimC_eq]
theorem mkB_size (l : Bs) : (mkB l).size = l.length := by simp [ByteArray.size]
theorem bt_head (c : UInt8) (l : Bs) : bt (mkB (c :: l)) 0 = (c.toNat : Int) := by
 have := L_bt (mkB (c :: l)) 0 (by simp)
 exact this
theorem allFig_L (s : ByteArray) : allFig s = figs (L s) := rfl
theorem byte_iff (c d : UInt8) : ((c.toNat : Int) = (d.toNat : Int)) ↔ c = d := by
 constructor
 ·intro h; exact UInt8.toNat_inj.1 (by omega)
 ·rintro rfl; rfl
theorem May_eq (s : ByteArray) : num_May.f s = some (mayB (L s)) := by
 unfold num_May.f mayB
 rw [trimP]
 simp only [Option.bind_some, mkB_size]
 obtain ⟨f, hf⟩ : ∃ f, trimC 45 (L s) = f := ⟨_, rfl⟩
 rw [hf]
 cases f with
 | nil => simp
 | cons c f =>
  rw [if_neg (by rw [List.length_cons]; omega)]
  by_cases h : (c :: f).length ≤ 100
  ·rw [if_neg (by omega), if_pos (by rw [List.length_cons]; omega), bt_head]
   unfold ContainsFunc_May.f
   rw [allFig_L, L_mk]
   have e1 : decide (1 ≤ (c :: f).length) = true := by simp
   have e2 : decide ((c :: f).length ≤ 100) = true := by simpa using h
   rw [e1, e2]
   by_cases hc : c = 48
   ·subst hc
    rw [if_pos (by decide), toList_L]
    by_cases h0 : L s = [48]
    ·rw [if_pos h0, h0]; simp
    ·rw [if_neg h0]
     have : (L s == [48]) = false := by simpa using h0
     rw [this]; simp
   ·have hne : ¬ ((c.toNat : Int) = 48) := fun h' => hc ((byte_iff c 48).1 h')
    rw [if_neg hne]
    have : ((c :: f).head? == some 48) = false := by simpa using hc
    rw [this]; simp
  ·rw [if_pos (by omega)]
   have e2 : decide ((c :: f).length ≤ 100) = false := by simpa using h
   rw [e2]; simp
def outN (o : Option Bs) : ByteArray × Bool := match o with | some n => (mkB n, true) | none => (⟨#[]⟩, false)
theorem number_eq (s : ByteArray) (hs : s.size ≤ 140737488351232) (k : Nat) (hk : 1 ≤ k) : lex_Number.f k s = some (outN (numberL (L s))) := by
 obtain ⟨k, rfl⟩ : ∃ j, k = j + 1 := ⟨k - 1, by omega⟩
 unfold lex_Number.f numberL
 rw [trimP]
 simp only [Option.bind_some, mkB_size, toList_L, L_mk]
 obtain ⟨f, hf⟩ : ∃ f, trimC 95 (L s) = f := ⟨_, rfl⟩
 have hl := trimC_len 95 (L s)
 rw [← L_size] at hl
 rw [hf] at hl ⊢
 have hj : ∀ n : Bs, lex_Number.j0 (k + 1) (mkB f) (mkB n) = some (outN (if figs f && mayB n then some n else none)) := by
  intro n
  simp only [lex_Number.j0, run_figure.f, runO, May_eq, L_mk, mkB_size]
  rw [if_pos (by omega), runN_eq, L_mk]
  simp only [Option.bind_some]
  by_cases h : figs f = true
  ·rw [h, if_pos (by rw [(figs_run f).1 h])]
   cases mayB n with
   | true => rfl
   | false => rfl
  ·rw [if_neg (fun h' => h ((figs_run f).2 (by omega)))]
   have : figs f = false := by simpa using h
   rw [this]; rfl
 by_cases h : f = L s
 ·rw [if_pos h, if_pos h, hj]
 ·rw [if_neg h, if_neg h, if_pos (by omega)]
  have e : (⟨#[45]⟩ : ByteArray) ++ mkB f = mkB (45 :: f) := L_ext (by rw [L_append]; rfl)
  rw [e, hj]
theorem indexB_iff (l : Bs) (c : UInt8) : ∃ t, strings_IndexByte.f (mkB l) (c.toNat : Int) = some t ∧ (t ≥ 0 ↔ l.contains c = true) := by
 refine ⟨_, rfl, ?_⟩
 have e : ((c.toNat : Int).toNat.toUInt8) = c := Lib.byte_back' c
 have e2 : (mkB l).data.toList = l := rfl
 rw [e, e2, Lib.contains_iff_indexByte]
 simp
theorem first_eq (s : ByteArray) (h0 : 0 < s.size) (hs : s.size ≤ 256) (k : Nat) (hk : 1 ≤ k) : lex_first.f k s = some (((firstL (L s)).1 : Int), ((firstL (L s)).2 : Int)) := by
 obtain ⟨l, hl⟩ : ∃ l, L s = l := ⟨_, rfl⟩
 obtain rfl : s = mkB l := by rw [← hl, mkB_L]
 clear hl
 rw [mkB_size] at h0 hs
 cases l with
 | nil => simp at h0
 | cons c l =>
  unfold lex_first.f firstL
  simp only [L_mk]
  rw [if_pos (by rw [mkB_size]; omega), bt_head]
  have hS : lex_small.f (c.toNat : Int) = some (isLow (c.toNat : Int)) := by
   unfold lex_small.f isLow
   by_cases h : (c.toNat : Int) ≥ 97
   ·rw [if_pos h]; congr 1; rw [Bool.eq_iff_iff, decide_eq_true_iff, decide_eq_true_iff]; omega
   ·rw [if_neg h]; congr 1; rw [Bool.eq_iff_iff, decide_eq_true_iff]; simp; omega
  have hG : lex_great.f (c.toNat : Int) = some (isUp (c.toNat : Int)) := by
   unfold lex_great.f isUp
   by_cases h : (c.toNat : Int) ≥ 65
   ·rw [if_pos h]; congr 1; rw [Bool.eq_iff_iff, decide_eq_true_iff, decide_eq_true_iff]; omega
   ·rw [if_neg h]; congr 1; rw [Bool.eq_iff_iff, decide_eq_true_iff]; simp; omega
  rw [hS, hG]
  simp only [Option.bind_some]
  by_cases h1 : isLow (c.toNat : Int) = true
  ·rw [if_pos h1, if_pos h1]
   simp only [run_word.f, runO]
   rw [if_pos (by rw [mkB_size]; omega)]
   rfl
  rw [if_neg h1, if_neg h1]
  by_cases h2 : isUp (c.toNat : Int) = true
  ·rw [if_pos h2, if_pos h2]
   simp only [run_verb.f, runO]
   rw [if_pos (by rw [mkB_size]; omega)]
   rfl
  rw [if_neg h2, if_neg h2]
  obtain ⟨t3, e3, i3⟩ := indexB_iff signsL c
  obtain ⟨t4, e4, i4⟩ := indexB_iff advsL c
  obtain ⟨t5, e5, i5⟩ := indexB_iff marksL c
  have e3' : strings_IndexByte.f (⟨#[43, 45, 42, 37, 33, 38, 124, 60, 62, 61, 126, 44, 35, 94, 36, 63, 64]⟩ : ByteArray) (c.toNat : Int) = some t3 := e3
  have e4' : strings_IndexByte.f (⟨#[39, 47, 92, 46, 96]⟩ : ByteArray) (c.toNat : Int) = some t4 := e4
  have e5' : strings_IndexByte.f (⟨#[40, 41, 91, 93, 123, 125, 58]⟩ : ByteArray) (c.toNat : Int) = some t5 := e5
  rw [e3', e4', e5', trimP]
  simp only [Option.bind_some, L_mk]
  by_cases h3 : t3 ≥ 0
  ·rw [if_pos h3, if_pos (i3.1 h3)]; rfl
  rw [if_neg h3, if_neg (fun h => h3 (i3.2 h))]
  by_cases h4 : t4 ≥ 0
  ·rw [if_pos h4, if_pos (i4.1 h4)]; rfl
  rw [if_neg h4, if_neg (fun h => h4 (i4.2 h))]
  by_cases h5 : t5 ≥ 0
  ·rw [if_pos h5, if_pos (i5.1 h5)]; rfl
  rw [if_neg h5, if_neg (fun h => h5 (i5.2 h))]
  have hl := trimC_len 95 (c :: l)
  obtain ⟨f, hf⟩ : ∃ f, trimC 95 (c :: l) = f := ⟨_, rfl⟩
  rw [hf] at hl ⊢
  have hr := runL_le isD f
  have er : run_figure.f (mkB f) = some (runL isD f : Int) := by
   simp only [run_figure.f, runO]
   rw [if_pos (by rw [mkB_size]; omega)]
   rfl
  rw [er]
  simp only [Option.bind_some, mkB_size]
  obtain ⟨n, hn⟩ : ∃ n, (c :: l).length - f.length + runL isD f = n := ⟨_, rfl⟩
  have hw : wrap64 (wrap64 (((c :: l).length : Int) - (f.length : Int)) + (runL isD f : Int)) = (n : Int) := by
   rw [wrap_id (a := ((c :: l).length : Int) - (f.length : Int)) (by omega) (by omega), wrap_id (by omega) (by omega)]; omega
  rw [hw, if_pos (by omega), if_pos (by omega)]
  have hx : (mkB (c :: l)).extract 0 (n : Int).toNat = mkB ((c :: l).take n) := L_ext (by rw [L_extract]; simp [L_mk])
  rw [hx, number_eq _ (by rw [mkB_size, List.length_take]; omega) k hk, L_mk, hn]
  simp only [Option.bind_some]
  cases hN : numberL ((c :: l).take n) with
  | none => rfl
  | some m => rfl
def encT (t : Tk) : S71 := ⟨(t.kind : Int), mkB t.text, (t.pos : Int)⟩
def outL (o : Nat ⊕ List Tk) : List S71 × Int × Int := match o with | .inl e => ([], (e : Int), 2) | .inr ts => (ts.map encT, 0, 0)
theorem lex_l0 (s : ByteArray) (hs : s.size ≤ 256) : ∀ (m k p : Nat) (acc : List S71), p ≤ s.size → s.size - p < m → s.size - p + 1 < k → acc.length ≤ p →
  lex_Lex.l0 k s acc (p : Int) = some (match lexF m p ((L s).drop p) with | .inl e => ([], (e : Int), 2) | .inr ts => (acc ++ ts.map encT, 0, 0)) := by
 intro m
 induction m with
 | zero => intro k p acc _ h; omega
 | succ m ih =>
  intro k p acc hp hm hk ha
  obtain ⟨k, rfl⟩ : ∃ j, k = j + 1 := ⟨k - 1, by omega⟩
  have hlen : ((L s).drop p).length = s.size - p := by rw [List.length_drop, ← L_size]
  simp only [lex_Lex.l0]
  cases hl : (L s).drop p with
  | nil =>
   rw [hl, List.length_nil] at hlen
   rw [if_neg (by omega)]
   simp [lexF]
  | cons c l =>
   rw [hl, List.length_cons] at hlen
   have hpl : p < (L s).length := by rw [← L_size]; omega
   have hg : (L s)[p] = c := by
    have := List.drop_eq_getElem_cons hpl
    rw [hl] at this
    injection this with h1 h2
    exact h1.symm
   rw [if_pos (by omega), if_pos (by omega), if_pos (by decide), L_bt s p hpl, hg]
   have e32 : bt (⟨#[32]⟩ : ByteArray) 0 = ((32 : UInt8).toNat : Int) := by decide
   rw [e32]
   simp only [lexF]
   by_cases hc : c = 32
   ·rw [if_pos (by rw [hc]), if_pos hc, wrap_id (by omega) (by omega)]
    have := ih k (p + 1) acc (by omega) (by omega) (by omega) (by omega)
    have hd : (L s).drop (p + 1) = l := by rw [← List.drop_drop, hl]; rfl
    rw [hd] at this
    exact_mod_cast this
   ·rw [if_neg (fun h => hc ((byte_iff c 32).1 h)), if_neg hc, if_pos (by omega)]
    have hx : s.extract (p : Int).toNat s.size = mkB (c :: l) := L_ext (by rw [L_end, L_mk, Int.toNat_natCast, hl])
    rw [hx, first_eq _ (by rw [mkB_size, List.length_cons]; omega) (by rw [mkB_size, List.length_cons]; omega) k (by omega), L_mk]
    simp only [Option.bind_some]
    by_cases h0 : (firstL (c :: l)).1 = 0
    ·rw [if_pos (by omega), if_pos h0]
    ·have hb := firstL_bounds c l h0
     rw [if_neg (by omega), if_neg h0]
     obtain ⟨kk, hkk⟩ : ∃ kk, (firstL (c :: l)).1 = kk := ⟨_, rfl⟩
     obtain ⟨n, hn⟩ : ∃ n, (firstL (c :: l)).2 = n := ⟨_, rfl⟩
     rw [hkk, hn] at hb ⊢
     rw [List.length_cons] at hb
     have hw : wrap64 ((p : Int) + (n : Int)) = ((p + n : Nat) : Int) := by rw [wrap_id (by omega) (by omega)]; omega
     have hacc : acc.length < 4398046511104 := Nat.lt_of_le_of_lt ha (Nat.lt_of_le_of_lt hp (Nat.lt_of_le_of_lt hs (by decide)))
     rw [hw]
     clear hw
     rw [if_pos (by omega), if_pos (by omega), if_pos hacc]
     have hy : s.extract (p : Int).toNat ((p + n : Nat) : Int).toNat = mkB ((c :: l).take n) := L_ext (by
      rw [L_extract, L_mk, Int.toNat_natCast, Int.toNat_natCast, hl, Nat.add_sub_cancel_left])
     rw [hy]
     have hd : (L s).drop (p + n) = (c :: l).drop n := by rw [← List.drop_drop, hl]
     have := ih k (p + n) (acc ++ [(⟨(kk : Int), mkB ((c :: l).take n), (p : Int)⟩ : S71)]) (by omega) (by omega) (by omega) (by rw [List.length_append, List.length_singleton]; omega)
     rw [hd] at this
     rw [this]
     cases lexF m (p + n) ((c :: l).drop n) with
     | inl e => rfl
     | inr ts => simp [encT]
theorem lex_eq (s : ByteArray) (hs : s.size ≤ 256) (k : Nat) (hk : 258 < k) : lex_Lex.f k s = some (outL (lexL (L s))) := by
 unfold lex_Lex.f lexL
 rw [if_neg (by omega)]
 have := lex_l0 s hs (s.size + 1) k 0 [] (by omega) (by omega) (by omega) (by simp)
 rw [List.drop_zero] at this
 have e : ((0 : Nat) : Int) = 0 := rfl
 rw [e] at this
 rw [this, ← L_size]
 cases lexF (s.size + 1) 0 (L s) with
 | inl e => rfl
 | inr ts => rfl
theorem lex_big (s : ByteArray) (hs : 256 < s.size) (k : Nat) : lex_Lex.f k s = some ([], 0, 8) := by
 unfold lex_Lex.f
 rw [if_pos (by omega)]
end Go.Proofs.Ytdelccahgchadaa
end
section
namespace Go.Proofs.Ytdelccahgchadaa
open Go.RowKit Go.Lib Go.Proofs.Ytdelccahgchadaa.P Go.Proofs.YtdelccahgchadaaW.PrintWords Go.Proofs.YtdelccahgchadaaW.PrintMore
set_option linter.unusedVariables false
abbrev Tt := S71
abbrev Nn := S25
abbrev PSt := List Tt × Bool
abbrev ES := PSt → List Nn × PSt
def kd0 (st : PSt) : Int := if st.2 = true then 0 else match st.1 with | t :: _ => t.f0 | [] => 0
def tx0 (st : PSt) : ByteArray := if st.2 = true then ⟨#[]⟩ else match st.1 with | t :: _ => t.f1 | [] => ⟨#[]⟩
def isM (m : UInt8) (st : PSt) : Bool := kd0 st == 6 && L (tx0 st) == [m]
def verbal (st : PSt) : Bool := kd0 st == 4 || kd0 st == 3 || isM 123 st
def next (st : PSt) : PSt := (st.1.tail, st.2)
def markS (m : UInt8) (st : PSt) : PSt := if isM m st = true then next st else (st.1, true)
def numS (s : ByteArray) : ByteArray := (outN (numberL (L s))).1
def litS : List ByteArray → List Tt → List ByteArray × PSt
 | acc, [] => (acc, [], false)
 | acc, t :: r => if t.f0 = 1 then (if acc.length = 100 then (acc, t :: r, true) else litS (acc ++ [numS t.f1]) r) else (acc, t :: r, false)
def nd0 (k : Int) : Nn := ⟨k, ⟨#[]⟩, ⟨#[]⟩, ⟨#[]⟩, []⟩
def advOk (advs : Bs) (t : ByteArray) : Bool := match L t with | [c] => advs.contains c | _ => false
def verbS (E : ES) (kind : Int) (advs : Bs) (st : PSt) : Nn × List Nn × PSt :=
 let b : List Nn × PSt := if tx0 st = ⟨#[123]⟩ then ((E (next st)).1, markS 125 (E (next st)).2) else ([], next st)
 if kd0 b.2 = 5 then (⟨kind, tx0 st, tx0 b.2, ⟨#[]⟩, []⟩, b.1, if advOk advs (tx0 b.2) = true then next b.2 else (b.2.1, true))
 else (⟨kind, tx0 st, ⟨#[]⟩, ⟨#[]⟩, []⟩, b.1, b.2)
def atomS (E : ES) (st : PSt) : List Nn × PSt :=
 if kd0 st = 1 then ([⟨1, ⟨#[]⟩, ⟨#[]⟩, ⟨#[]⟩, (litS [] st.1).1⟩], (litS [] st.1).2)
 else if kd0 st = 2 then ([⟨2, ⟨#[]⟩, ⟨#[]⟩, tx0 st, []⟩], next st)
 else if (markS 40 st).2 = true then ([], markS 40 st)
 else ((E (markS 40 st)).1, markS 41 (E (markS 40 st)).2)
def idxS (E : ES) : Nat → List Nn → PSt → List Nn × PSt
 | 0, l, st => (l, st)
 | n + 1, l, st => if isM 91 st = true then idxS E n (nd0 8 :: (l ++ (E (next st)).1)) (markS 93 (E (next st)).2) else (l, st)
def termS (E : ES) (st : PSt) : List Nn × PSt := idxS E (atomS E st).2.1.length (atomS E st).1 (atomS E st).2
def oneB : Bs := [39, 47, 92, 96]
def twoB : Bs := [39, 46]
def exprV (E : ES) (v : Nn × List Nn × PSt) (left : List Nn) : List Nn × PSt := (v.1 :: (v.2.1 ++ (left ++ (E v.2.2).1)), (E v.2.2).2)
def exprB (E : ES) (st : PSt) : List Nn × PSt :=
 if verbal st = true then exprV E (verbS E 3 oneB st) []
 else if verbal (termS E st).2 = true then exprV E (verbS E 4 twoB (termS E st).2) (termS E st).1
 else termS E st
def exprS : Nat → ES
 | 0 => fun st => ([], st.1, true)
 | n + 1 => exprB (exprS n)
def meas (st : PSt) : Nat := if st.2 = true then 0 else st.1.length
def Fine (st : PSt) (r : List Nn × PSt) : Prop := r.2.1 <:+ st.1 ∧ r.1.length + r.2.1.length ≤ st.1.length ∧ (st.2 = true → r.2.2 = true)
def Taken (a b : PSt) : Prop := b.1 <:+ a.1 ∧ (a.2 = true → b.2 = true)
theorem Taken.refl (a : PSt) : Taken a a := ⟨List.suffix_refl _, fun h => h⟩
theorem Taken.trans {a b c : PSt} (h : Taken a b) (k : Taken b c) : Taken a c := ⟨k.1.trans h.1, fun e => k.2 (h.2 e)⟩
theorem kd0_pos {st : PSt} (h : kd0 st ≠ 0) : st.2 = false ∧ ∃ t r, st.1 = t :: r ∧ kd0 st = t.f0 ∧ tx0 st = t.f1 := by
 obtain ⟨l, b⟩ := st
 unfold kd0 at h
 cases b with
 | true => rw [if_pos rfl] at h; exact absurd rfl h
 | false =>
  rw [if_neg (fun e : (l, false).2 = true => by cases e)] at h
  cases l with
  | nil => exact absurd rfl h
  | cons t r => exact ⟨rfl, t, r, rfl, rfl, rfl⟩
theorem isM_kd {m : UInt8} {st : PSt} (h : isM m st = true) : kd0 st = 6 := by
 unfold isM at h
 rw [Bool.and_eq_true, beq_iff_eq] at h
 exact h.1
theorem verbal_kd {st : PSt} (h : verbal st = true) : kd0 st = 4 ∨ kd0 st = 3 ∨ kd0 st = 6 := by
 unfold verbal at h
 rw [Bool.or_eq_true, Bool.or_eq_true, beq_iff_eq, beq_iff_eq] at h
 rcases h with (h | h) | h
 ·exact .inl h
 ·exact .inr (.inl h)
 ·exact .inr (.inr (isM_kd h))
theorem kd0_taken {st : PSt} (h : kd0 st ≠ 0) : Taken st (next st) ∧ (next st).1.length + 1 = st.1.length := by
 obtain ⟨hb, t, r, h1, _, _⟩ := kd0_pos h
 unfold next Taken
 rw [h1]
 exact ⟨⟨⟨[t], rfl⟩, fun e => e⟩, rfl⟩
theorem markS_taken (m : UInt8) (st : PSt) : Taken st (markS m st) := by
 unfold markS
 by_cases h : isM m st = true
 ·rw [if_pos h]; exact (kd0_taken (by rw [isM_kd h]; decide)).1
 ·rw [if_neg h]; exact ⟨List.suffix_refl _, fun _ => rfl⟩
theorem Taken.len {a b : PSt} (h : Taken a b) : b.1.length ≤ a.1.length := h.1.length_le
theorem Fine.taken {a : PSt} {r : List Nn × PSt} (h : Fine a r) : Taken a r.2 := ⟨h.1, h.2.2⟩
theorem litS_fine : ∀ (l : List Tt) (acc : List ByteArray), (litS acc l).2.1 <:+ l ∧ (litS acc l).1.length = acc.length + (l.length - (litS acc l).2.1.length) ∧ (acc.length ≤ 100 → (litS acc l).1.length ≤ 100) := by
 intro l
 induction l with
 | nil => intro acc; simp only [litS]; exact ⟨List.suffix_refl _, by simp, fun h => h⟩
 | cons t r ih =>
  intro acc
  simp only [litS]
  by_cases h : t.f0 = 1
  ·rw [if_pos h]
   by_cases h2 : acc.length = 100
   ·rw [if_pos h2]; exact ⟨List.suffix_refl _, by simp, fun h => h⟩
   ·rw [if_neg h2]
    have := ih (acc ++ [numS t.f1])
    have hl := this.1.length_le
    rw [List.length_append, List.length_singleton] at this
    exact ⟨this.1.trans ⟨[t], rfl⟩, by rw [List.length_cons]; omega, fun h => this.2.2 (by omega)⟩
  ·rw [if_neg h]; exact ⟨List.suffix_refl _, by simp, fun h => h⟩
def GoodE (E : ES) (n : Nat) : Prop := ∀ st, meas st < n → Fine st (E st)
theorem meas_next {st : PSt} {n : Nat} (h : kd0 st ≠ 0) (hm : meas st < n + 1) : meas (next st) < n ∧ st.2 = false ∧ meas st = st.1.length := by
 obtain ⟨hb, t, r, h1, _, _⟩ := kd0_pos h
 have h2 : meas st = st.1.length := by unfold meas; rw [hb]; rfl
 have h3 : (next st).1.length + 1 = st.1.length := (kd0_taken h).2
 have h4 : meas (next st) = (next st).1.length := by
  unfold meas
  have : (next st).2 = false := hb
  rw [this]; rfl
 exact ⟨by omega, hb, h2⟩
theorem meas_le (st : PSt) : meas st ≤ st.1.length := by unfold meas; split <;> omega
theorem meas_taken {a b : PSt} {n : Nat} (h : Taken a b) (hm : meas a < n) : meas b < n := by
 unfold meas at hm ⊢
 have hl := h.len
 by_cases hb : b.2 = true
 ·rw [if_pos hb]; omega
 ·rw [if_neg hb]
  rw [if_neg (fun e => hb (h.2 e))] at hm
  omega
theorem verbS_fine (E : ES) (n : Nat) (hE : GoodE E n) (kind : Int) (advs : Bs) (st : PSt) (hv : verbal st = true) (hm : meas st < n + 1) :
  Taken st (verbS E kind advs st).2.2 ∧ (verbS E kind advs st).2.1.length + 1 + (verbS E kind advs st).2.2.1.length ≤ st.1.length ∧ meas (verbS E kind advs st).2.2 < n := by
 have hk : kd0 st ≠ 0 := by rcases verbal_kd hv with h | h | h <;> rw [h] <;> decide
 obtain ⟨hn, hb, hms⟩ := meas_next hk hm
 obtain ⟨ht, hl⟩ := kd0_taken hk
 unfold verbS
 obtain ⟨b, hbd⟩ : ∃ b : List Nn × PSt, b = (if tx0 st = ⟨#[123]⟩ then ((E (next st)).1, markS 125 (E (next st)).2) else ([], next st)) := ⟨_, rfl⟩
 simp only []
 rw [← hbd]
 have hb2 : Taken (next st) b.2 ∧ b.1.length + b.2.1.length ≤ (next st).1.length := by
  rw [hbd]
  by_cases h : tx0 st = ⟨#[123]⟩
  ·rw [if_pos h]
   have hf := hE _ hn
   have hmk := markS_taken 125 (E (next st)).2
   have := hmk.len
   exact ⟨hf.taken.trans hmk, by have := hf.2.1; simp only []; omega⟩
  ·rw [if_neg h]; exact ⟨Taken.refl _, by simp⟩
 have hmb : meas b.2 < n := meas_taken hb2.1 hn
 by_cases h5 : kd0 b.2 = 5
 ·rw [if_pos h5]
  have hkb : kd0 b.2 ≠ 0 := by rw [h5]; decide
  obtain ⟨ht2, hl2⟩ := kd0_taken hkb
  simp only []
  by_cases ha : advOk advs (tx0 b.2) = true
  ·rw [if_pos ha]
   exact ⟨(ht.trans hb2.1).trans ht2, by have := hb2.2; omega, meas_taken ht2 hmb⟩
  ·rw [if_neg ha]
   have ht3 : Taken b.2 (b.2.1, true) := ⟨List.suffix_refl _, fun _ => rfl⟩
   exact ⟨(ht.trans hb2.1).trans ht3, by have := hb2.2; simp only []; omega, meas_taken ht3 hmb⟩
 ·rw [if_neg h5]
  exact ⟨ht.trans hb2.1, by have := hb2.2; simp only []; omega, hmb⟩
theorem atomS_fine (E : ES) (n : Nat) (hE : GoodE E n) (st : PSt) (hm : meas st < n + 1) : Fine st (atomS E st) ∧ (meas (atomS E st).2 < n ∨ (atomS E st).2.2 = true ∨ kd0 (atomS E st).2 ≠ 1) := by
 unfold atomS
 by_cases h1 : kd0 st = 1
 ·rw [if_pos h1]
  have hk : kd0 st ≠ 0 := by rw [h1]; decide
  obtain ⟨hn, hb, hms⟩ := meas_next hk hm
  obtain ⟨_, t, r, e1, e2, e3⟩ := kd0_pos hk
  have hf := litS_fine st.1 []
  have hl := hf.1.length_le
  have h0 : (litS [] st.1).2.1.length + 1 ≤ st.1.length := by
   rw [e1]
   have e4 : litS [] (t :: r) = litS [numS t.f1] r := by
    simp only [litS]
    rw [if_pos (by rw [← e2]; exact h1), if_neg (by simp)]
    rfl
   rw [e4]
   have := (litS_fine r [numS t.f1]).1.length_le
   rw [List.length_cons]; omega
  refine ⟨⟨hf.1, by simp only [List.length_singleton]; omega, fun h => by rw [hb] at h; cases h⟩, .inl ?_⟩
  have := meas_le (litS [] st.1).2
  simp only []
  omega
 ·rw [if_neg h1]
  by_cases h2 : kd0 st = 2
  ·rw [if_pos h2]
   have hk : kd0 st ≠ 0 := by rw [h2]; decide
   obtain ⟨hn, hb, hms⟩ := meas_next hk hm
   obtain ⟨ht, hl⟩ := kd0_taken hk
   exact ⟨⟨ht.1, by simp only [List.length_singleton]; omega, ht.2⟩, .inl hn⟩
  ·rw [if_neg h2]
   by_cases h3 : (markS 40 st).2 = true
   ·rw [if_pos h3]
    have ht := markS_taken 40 st
    exact ⟨⟨ht.1, by have := ht.len; simp only [List.length_nil]; omega, ht.2⟩, .inr (.inl h3)⟩
   ·rw [if_neg h3]
    have hM : isM 40 st = true := by
     unfold markS at h3
     by_cases h : isM 40 st = true
     ·exact h
     ·rw [if_neg h] at h3; exact absurd rfl h3
    have hk : kd0 st ≠ 0 := by rw [isM_kd hM]; decide
    obtain ⟨hn, hb, hms⟩ := meas_next hk hm
    have he : markS 40 st = next st := by unfold markS; rw [if_pos hM]
    obtain ⟨ht, hl⟩ := kd0_taken hk
    rw [he]
    have hf := hE _ hn
    have hmk := markS_taken 41 (E (next st)).2
    have hall := (ht.trans hf.taken).trans hmk
    refine ⟨⟨hall.1, ?_, hall.2⟩, .inl (meas_taken (hf.taken.trans hmk) hn)⟩
    have := hmk.len
    have := hf.2.1
    simp only []
    omega
theorem idxS_fine (E : ES) (n : Nat) (hE : GoodE E n) : ∀ (m : Nat) (l : List Nn) (st : PSt), meas st < n + 1 → Taken st (idxS E m l st).2 ∧ (idxS E m l st).1.length + (idxS E m l st).2.1.length ≤ l.length + st.1.length := by
 intro m
 induction m with
 | zero => intro l st hm; exact ⟨Taken.refl _, Nat.le_refl _⟩
 | succ m ih =>
  intro l st hm
  simp only [idxS]
  by_cases h : isM 91 st = true
  ·rw [if_pos h]
   have hk : kd0 st ≠ 0 := by rw [isM_kd h]; decide
   obtain ⟨hn, hb, hms⟩ := meas_next hk hm
   obtain ⟨ht, hl⟩ := kd0_taken hk
   have hf := hE _ hn
   have hmk := markS_taken 93 (E (next st)).2
   have hr := ih (nd0 8 :: (l ++ (E (next st)).1)) (markS 93 (E (next st)).2) (by have := meas_taken (hf.taken.trans hmk) hn; omega)
   refine ⟨((ht.trans hf.taken).trans hmk).trans hr.1, ?_⟩
   have h1 := hr.2
   have h2 := hmk.len
   have h3 := hf.2.1
   rw [List.length_cons, List.length_append] at h1
   omega
  ·rw [if_neg h]; exact ⟨Taken.refl _, Nat.le_refl _⟩
theorem termS_fine (E : ES) (n : Nat) (hE : GoodE E n) (st : PSt) (hm : meas st < n + 1) : Fine st (termS E st) := by
 unfold termS
 have ha := (atomS_fine E n hE st hm).1
 have hi := idxS_fine E n hE (atomS E st).2.1.length (atomS E st).1 (atomS E st).2 (meas_taken ha.taken hm)
 have ht := ha.taken.trans hi.1
 exact ⟨ht.1, by have := hi.2; have := ha.2.1; omega, ht.2⟩
theorem exprV_fine (E : ES) (n : Nat) (hE : GoodE E n) (st : PSt) (v : Nn × List Nn × PSt) (left : List Nn) (ht : Taken st v.2.2) (hl : left.length + v.2.1.length + 1 + v.2.2.1.length ≤ st.1.length) (hm : meas v.2.2 < n) : Fine st (exprV E v left) := by
 unfold exprV
 have hf := hE _ hm
 have h1 := ht.trans hf.taken
 refine ⟨h1.1, ?_, h1.2⟩
 have := hf.2.1
 simp only [List.length_cons, List.length_append]
 omega
theorem exprB_fine (E : ES) (n : Nat) (hE : GoodE E n) (st : PSt) (hm : meas st < n + 1) : Fine st (exprB E st) := by
 unfold exprB
 by_cases h1 : verbal st = true
 ·rw [if_pos h1]
  obtain ⟨v1, v2, v3⟩ := verbS_fine E n hE 3 oneB st h1 hm
  exact exprV_fine E n hE st _ [] v1 (by rw [List.length_nil]; omega) v3
 ·rw [if_neg h1]
  have hf := termS_fine E n hE st hm
  by_cases h2 : verbal (termS E st).2 = true
  ·rw [if_pos h2]
   obtain ⟨v1, v2, v3⟩ := verbS_fine E n hE 4 twoB (termS E st).2 h2 (meas_taken hf.taken hm)
   exact exprV_fine E n hE st _ _ (hf.taken.trans v1) (by have := hf.2.1; omega) v3
  ·rw [if_neg h2]
   exact hf
theorem exprS_good : ∀ n, GoodE (exprS n) n := by
 intro n
 induction n with
 | zero => intro st h; omega
 | succ n ih => intro st h; exact exprB_fine (exprS n) n ih st h
end Go.Proofs.Ytdelccahgchadaa
end
section
namespace Go.Proofs.Ytdelccahgchadaa
open Go.RowKit Go.Proofs.YtdelccahgchadaaW.PrintWords Go.Proofs.YtdelccahgchadaaW.PrintMore
set_option linter.unusedVariables false
section
variable {α : Type} (kd : α → Int)
def endW : List α → Nat → Option Nat
 | _, 0 => some 0
 | [], _ + 1 => none
 | x :: l, n + 1 => if kd x < 0 then none else (endW l (n + (kd x).toNat)).map (· + 1)
theorem endW_zero (l : List α) : endW kd l 0 = some 0 := by cases l <;> rfl
theorem endW_le {l : List α} : ∀ {n m : Nat}, endW kd l n = some m → m ≤ l.length ∧ (1 ≤ n → 1 ≤ m) := by
 induction l with
 | nil =>
  intro n m h
  cases n with
  | zero => rw [endW_zero] at h; injection h with h; subst h; exact ⟨Nat.le_refl _, fun h => absurd h (by omega)⟩
  | succ n => cases h
 | cons x l ih =>
  intro n m h
  cases n with
  | zero => rw [endW_zero] at h; injection h with h; subst h; exact ⟨Nat.zero_le _, fun h => absurd h (by omega)⟩
  | succ n =>
   simp only [endW] at h
   split at h
   ·cases h
   ·obtain ⟨j, hj, rfl⟩ := Option.map_eq_some_iff.1 h
    have := (ih hj).1
    rw [List.length_cons]
    exact ⟨by omega, fun _ => by omega⟩
theorem endW_add {l : List α} : ∀ (a b : Nat), endW kd l (a + b) = (endW kd l a).bind fun m => (endW kd (l.drop m) b).map (m + ·) := by
 induction l with
 | nil =>
  intro a b
  cases a with
  | zero => rw [endW_zero, Nat.zero_add]; simp only [Option.bind_some, List.drop_zero]; cases endW kd ([] : List α) b <;> simp
  | succ a => rw [Nat.succ_add]; rfl
 | cons x l ih =>
  intro a b
  cases a with
  | zero => rw [endW_zero, Nat.zero_add]; simp only [Option.bind_some, List.drop_zero]; cases endW kd (x :: l) b <;> simp
  | succ a =>
   rw [show a + 1 + b = (a + b) + 1 by omega]
   simp only [endW]
   by_cases h : kd x < 0
   ·rw [if_pos h, if_pos h]; rfl
   ·rw [if_neg h, if_neg h, show a + b + (kd x).toNat = (a + (kd x).toNat) + b by omega, ih]
    cases endW kd l (a + (kd x).toNat) with
    | none => rfl
    | some m =>
     simp only [Option.bind_some, Option.map_some, List.drop_succ_cons]
     cases endW kd (l.drop m) b with
     | none => rfl
     | some j => simp; omega
theorem endW_append {l : List α} : ∀ {n m : Nat} (r : List α), endW kd l n = some m → endW kd (l ++ r) n = some m := by
 induction l with
 | nil =>
  intro n m r h
  cases n with
  | zero => rw [endW_zero] at h ⊢; exact h
  | succ n => cases h
 | cons x l ih =>
  intro n m r h
  cases n with
  | zero => rw [endW_zero] at h ⊢; exact h
  | succ n =>
   rw [List.cons_append]
   simp only [endW] at h ⊢
   split at h
   ·cases h
   ·rename_i hx
    rw [if_neg hx]
    obtain ⟨j, hj, rfl⟩ := Option.map_eq_some_iff.1 h
    rw [ih r hj]; rfl
theorem endW_take {l : List α} : ∀ {n m : Nat}, endW kd l n = some m → endW kd (l.take m) n = some m := by
 induction l with
 | nil =>
  intro n m h
  rw [List.take_nil]; exact h
 | cons x l ih =>
  intro n m h
  cases n with
  | zero => rw [endW_zero] at h ⊢; exact h
  | succ n =>
   simp only [endW] at h
   split at h
   ·cases h
   ·rename_i hx
    obtain ⟨j, hj, rfl⟩ := Option.map_eq_some_iff.1 h
    rw [List.take_succ_cons]
    simp only [endW]
    rw [if_neg hx, ih hj]; rfl
def dec : List Nat → List Nat
 | [] => []
 | c :: st => if c ≤ 1 then dec st else (c - 1) :: st
def mach : List α → List Nat → Nat → Nat
 | [], _, most => most
 | x :: l, st, most =>
  if (kd x).toNat = 0 then (match dec st with | [] => max most (st.length + 1) | s :: st' => mach l (s :: st') (max most (st.length + 1)))
  else mach l ((kd x).toNat :: st) (max most (st.length + 1))
def fin (st : List Nat) (r : List α) (most : Nat) : Nat := match dec st with | [] => most | s :: st' => mach kd r (s :: st') most
theorem mach_cons0 (x : α) (l : List α) (st : List Nat) (most : Nat) (h : (kd x).toNat = 0) : mach kd (x :: l) st most = fin kd st l (max most (st.length + 1)) := by
 simp only [mach, fin]; rw [if_pos h]
theorem mach_consS (x : α) (l : List α) (st : List Nat) (most : Nat) (h : ¬ (kd x).toNat = 0) : mach kd (x :: l) st most = mach kd l ((kd x).toNat :: st) (max most (st.length + 1)) := by
 simp only [mach]; rw [if_neg h]
theorem mach_max : ∀ (l : List α) (st : List Nat) (most : Nat), mach kd l st most = max most (mach kd l st 0) := by
 intro l
 induction l with
 | nil => intro st most; simp [mach]
 | cons x l ih =>
  intro st most
  simp only [mach]
  by_cases h : (kd x).toNat = 0
  ·rw [if_pos h, if_pos h]
   cases dec st with
   | nil => simp only []; omega
   | cons s st' => simp only []; rw [ih, ih (s :: st') (max 0 (st.length + 1))]; omega
  ·rw [if_neg h, if_neg h, ih, ih ((kd x).toNat :: st) (max 0 (st.length + 1))]; omega
def need : List Nat → Nat
 | [] => 1
 | c :: st => (c - 1) + need st
theorem need_pos (st : List Nat) : 1 ≤ need st := by
 induction st with
 | nil => exact Nat.le_refl _
 | cons c st ih => simp only [need]; omega
theorem dec_need (st : List Nat) (h : ∀ c ∈ st, 1 ≤ c) : (dec st = [] → need st = 1) ∧ (dec st ≠ [] → need (dec st) = need st - 1) ∧ ∀ c ∈ dec st, 1 ≤ c := by
 induction st with
 | nil => exact ⟨fun _ => rfl, fun h => absurd rfl h, fun c hc => by cases hc⟩
 | cons c st ih =>
  have ih := ih fun d hd => h d (List.mem_cons_of_mem _ hd)
  have hc := h c List.mem_cons_self
  have hp := need_pos st
  simp only [dec, need]
  by_cases h1 : c ≤ 1
  ·rw [if_pos h1]
   refine ⟨fun h2 => ?_, fun h2 => ?_, ih.2.2⟩
   ·have := ih.1 h2; omega
   ·have := ih.2.1 h2; omega
  ·rw [if_neg h1]
   refine ⟨fun h2 => (by cases h2), fun _ => ?_, ?_⟩
   ·simp only [need]; omega
   ·intro d hd
    rcases List.mem_cons.1 hd with e | e
    ·omega
    ·exact h d (List.mem_cons_of_mem _ e)
theorem dec_nil_append (s st : List Nat) (h : dec s = []) : dec (s ++ st) = dec st := by
 induction s with
 | nil => rfl
 | cons c s ih =>
  simp only [List.cons_append, dec] at h ⊢
  by_cases h1 : c ≤ 1
  ·rw [if_pos h1] at h ⊢; exact ih h
  ·rw [if_neg h1] at h; cases h
theorem dec_cons_append (s st : List Nat) (h : dec s ≠ []) : dec (s ++ st) = dec s ++ st := by
 induction s with
 | nil => exact absurd rfl h
 | cons c s ih =>
  simp only [List.cons_append, dec] at h ⊢
  by_cases h1 : c ≤ 1
  ·rw [if_pos h1] at h ⊢; rw [if_pos h1]; exact ih h
  ·rw [if_neg h1]; rw [if_neg h1]; rfl
theorem mach_shift : ∀ (f : List α) (s st : List Nat) (r : List α) (most : Nat), (∀ c ∈ s, 1 ≤ c) → endW kd f (need s) = some f.length →
  mach kd (f ++ r) (s ++ st) most = fin kd st r (max most (st.length + mach kd f s 0)) := by
 intro f
 induction f with
 | nil =>
  intro s st r most hs h
  have := need_pos s
  obtain ⟨n, hn⟩ : ∃ n, need s = n + 1 := ⟨need s - 1, by omega⟩
  rw [hn] at h
  cases h
 | cons x f ih =>
  intro s st r most hs h
  have hp := need_pos s
  obtain ⟨n, hn⟩ : ∃ n, need s = n + 1 := ⟨need s - 1, by omega⟩
  rw [hn] at h
  simp only [endW] at h
  by_cases hx : kd x < 0
  ·rw [if_pos hx] at h; cases h
  rw [if_neg hx] at h
  obtain ⟨j, hj, hj2⟩ := Option.map_eq_some_iff.1 h
  rw [List.length_cons] at hj2
  obtain rfl : j = f.length := by omega
  rw [List.cons_append]
  by_cases h0 : (kd x).toNat = 0
  ·rw [mach_cons0 kd _ _ _ _ h0, mach_cons0 kd _ _ _ _ h0]
   rw [h0, Nat.add_zero] at hj
   unfold fin
   have hd := dec_need s hs
   by_cases hd0 : dec s = []
   ·rw [dec_nil_append s st hd0, hd0]
    have := hd.1 hd0
    obtain rfl : n = 0 := by omega
    rw [endW_zero] at hj
    injection hj with hj
    obtain rfl : f = [] := List.length_eq_zero_iff.1 hj.symm
    rw [List.nil_append, List.length_append]
    simp only []
    have e : max most (s.length + st.length + 1) = max most (st.length + max 0 (s.length + 1)) := by omega
    rw [e]
   ·rw [dec_cons_append s st hd0]
    have hn2 := hd.2.1 hd0
    obtain ⟨t, s', hts⟩ : ∃ t s', dec s = t :: s' := by
     cases hds : dec s with
     | nil => exact absurd hds hd0
     | cons t s' => exact ⟨t, s', rfl⟩
    have := ih (dec s) st r (max most ((s ++ st).length + 1)) hd.2.2 (by rw [hn2, hn]; simpa using hj)
    rw [hts] at this ⊢
    simp only [List.cons_append] at this ⊢
    rw [this, List.length_append, mach_max kd f (t :: s') (max 0 (s.length + 1))]
    unfold fin
    have e : max (max most (s.length + st.length + 1)) (st.length + mach kd f (t :: s') 0) = max most (st.length + max (max 0 (s.length + 1)) (mach kd f (t :: s') 0)) := by omega
    rw [e]
  ·rw [mach_consS kd _ _ _ _ h0, mach_consS kd _ _ _ _ h0]
   have := ih ((kd x).toNat :: s) st r (max most ((s ++ st).length + 1)) (by
    intro c hc
    rcases List.mem_cons.1 hc with e | e
    ·omega
    ·exact hs c e) (by
    simp only [need]
    rw [hn, show (kd x).toNat - 1 + (n + 1) = n + (kd x).toNat by omega]
    exact hj)
   rw [List.cons_append] at this
   rw [this, List.length_append, mach_max kd f ((kd x).toNat :: s) (max 0 (s.length + 1))]
   have e : max (max most (s.length + st.length + 1)) (st.length + mach kd f ((kd x).toNat :: s) 0) = max most (st.length + max (max 0 (s.length + 1)) (mach kd f ((kd x).toNat :: s) 0)) := by omega
   rw [e]
def depL (l : List α) : Nat := match endW kd l 1 with | none => 0 | some _ => mach kd l [] 0
end
end Go.Proofs.Ytdelccahgchadaa
end
section
namespace Go.Proofs.Ytdelccahgchadaa
open Go.RowKit Go.Lib Go.Proofs.Ytdelccahgchadaa.P Go.Proofs.YtdelccahgchadaaW.PrintWords Go.Proofs.YtdelccahgchadaaW.PrintMore
set_option linter.unusedVariables false
abbrev Nd := S25
def kdB (f0 : Int) (v : ByteArray) : Int :=
 let b : Int := if v.toList = ([123] : List UInt8) then 1 else 0
 if f0 = 1 ∨ f0 = 2 then 0 else if f0 = 3 then 1 + b else if f0 = 4 then 2 + b else if f0 = 5 ∨ f0 = 7 then 1 else if f0 = 6 ∨ f0 = 8 then 2 else -1
def kdT (x : Nd) : Int := kdB x.f0 x.f1
theorem kdB_bounds (f0 : Int) (v : ByteArray) : -1 ≤ kdB f0 v ∧ kdB f0 v ≤ 3 := by
 unfold kdB
 simp only []
 split <;> (try split) <;> (try split) <;> (try split) <;> (try split) <;> (try split) <;> omega
theorem Kids_eq (f0 : Int) (v a n : ByteArray) (l : List ByteArray) (k : Nat) (hk : 3 ≤ k) : tree_Kids.f k f0 v a n l = some (kdB f0 v) := by
 obtain ⟨k, rfl⟩ : ∃ j, k = j + 3 := ⟨k - 3, by omega⟩
 have h0 : ∀ b : Int, b = 0 ∨ b = 1 → tree_Kids.j0 (k + 3) b f0 v a n l = some (if f0 = 1 ∨ f0 = 2 then 0 else if f0 = 3 then 1 + b else if f0 = 4 then 2 + b else if f0 = 5 ∨ f0 = 7 then 1 else if f0 = 6 ∨ f0 = 8 then 2 else -1) := by
  intro b hb
  have w1 : wrap64 (1 + b) = 1 + b := wrap_id (by omega) (by omega)
  have w2 : wrap64 (2 + b) = 2 + b := wrap_id (by omega) (by omega)
  simp only [tree_Kids.j0, tree_Kids.j1, tree_Kids.j2, w1, w2]
  by_cases h1 : f0 = 1
  ·subst h1; simp
  by_cases h2 : f0 = 2
  ·subst h2; simp
  by_cases h3 : f0 = 3
  ·subst h3; simp
  by_cases h4 : f0 = 4
  ·subst h4; simp
  by_cases h5 : f0 = 5
  ·subst h5; simp
  by_cases h6 : f0 = 6
  ·subst h6; simp
  by_cases h7 : f0 = 7
  ·subst h7; simp
  by_cases h8 : f0 = 8
  ·subst h8; simp
  simp [h1, h2, h3, h4, h5, h6, h7, h8]
 unfold tree_Kids.f kdB
 by_cases hv : v.toList = ([123] : List UInt8)
 ·rw [if_pos hv, if_pos hv]; exact h0 1 (.inr rfl)
 ·rw [if_neg hv, if_neg hv]; exact h0 0 (.inl rfl)
theorem rd_drop (l : List Nd) (i : Nat) (x : Nd) (r : List Nd) (h : l.drop i = x :: r) : rd_T25 l (i : Int) = x ∧ i < l.length ∧ l.drop (i + 1) = r := by
 have hi : i < l.length := by
  have := congrArg List.length h
  rw [List.length_drop, List.length_cons] at this
  omega
 have hd := List.drop_eq_getElem_cons hi
 rw [h] at hd
 injection hd with h1 h2
 refine ⟨?_, hi, h2.symm⟩
 unfold rd_T25
 rw [Int.toNat_natCast, List.getD_eq_getElem?_getD, List.getElem?_eq_getElem hi]
 exact h1.symm
def outE (i : Nat) : Option Nat → Int × Bool
 | none => (0, false)
 | some m => (((i + m : Nat) : Int), true)
theorem End_l0 (l0 : List Nd) (hl : l0.length ≤ 1000000) : ∀ (l : List Nd) (i n k : Nat), l0.drop i = l → n ≤ 3 * i + 1 → i ≤ l0.length → l.length + 5 ≤ k →
  tree_End.l0 k l0 (i : Int) (n : Int) = some (outE i (endW kdT l n)) := by
 intro l
 induction l with
 | nil =>
  intro i n k hd hn hi hk
  obtain ⟨k, rfl⟩ : ∃ j, k = j + 1 := ⟨k - 1, by rw [List.length_nil] at hk; omega⟩
  simp only [tree_End.l0]
  cases n with
  | zero => rw [if_neg (by omega), endW_zero]; rfl
  | succ n =>
   have : l0.length ≤ i := by
    have := congrArg List.length hd
    rw [List.length_drop, List.length_nil] at this
    omega
   rw [if_pos (by omega), if_neg (by omega), if_pos (by omega)]
   rfl
 | cons x l ih =>
  intro i n k hd hn hi hk
  rw [List.length_cons] at hk
  obtain ⟨k, rfl⟩ : ∃ j, k = j + 1 := ⟨k - 1, by omega⟩
  obtain ⟨hr, hlt, hd2⟩ := rd_drop l0 i x l hd
  simp only [tree_End.l0]
  cases n with
  | zero => rw [if_neg (by omega), endW_zero]; rfl
  | succ n =>
   rw [if_pos (by omega), if_neg (by omega), if_neg (by omega), if_pos (by omega), if_pos (by omega), hr, Kids_eq _ _ _ _ _ k (by omega)]
   simp only [Option.bind_some, endW]
   have hb := kdB_bounds x.f0 x.f1
   have hk1 : kdT x = kdB x.f0 x.f1 := rfl
   by_cases h : kdB x.f0 x.f1 < 0
   ·rw [if_pos h, hk1, if_pos h]; rfl
   ·rw [if_neg h, hk1, if_neg h]
    have w1 : wrap64 ((i : Int) + 1) = ((i + 1 : Nat) : Int) := by rw [wrap_id (by omega) (by omega)]; omega
    have w2 : wrap64 (((n + 1 : Nat) : Int) + kdB x.f0 x.f1) = ((n + 1 : Nat) : Int) + kdB x.f0 x.f1 := wrap_id (by omega) (by omega)
    have w3 : wrap64 (((n + 1 : Nat) : Int) + kdB x.f0 x.f1 - 1) = ((n + (kdB x.f0 x.f1).toNat : Nat) : Int) := by rw [wrap_id (by omega) (by omega)]; omega
    rw [w1, w2, w3]
    clear w1 w2 w3
    rw [ih (i + 1) (n + (kdB x.f0 x.f1).toNat) k hd2 (by omega) (by omega) (by omega)]
    cases endW kdT l (n + (kdB x.f0 x.f1).toNat) with
    | none => rfl
    | some m => simp only [outE, Option.map_some]; congr 2; omega
theorem End_eq (l0 : List Nd) (hl : l0.length ≤ 1000000) (i : Nat) (hi : i ≤ l0.length) (k : Nat) (hk : l0.length + 5 ≤ k) : tree_End.f k l0 (i : Int) = some (outE i (endW kdT (l0.drop i) 1)) := by
 unfold tree_End.f
 exact End_l0 l0 hl (l0.drop i) i 1 k rfl (by omega) hi (by rw [List.length_drop]; omega)
def encS : List Nat → List Int
 | [] => []
 | c :: st => encS st ++ [(c : Int)]
theorem encS_len (st : List Nat) : (encS st).length = st.length := by
 induction st with
 | nil => rfl
 | cons c st ih => simp [encS, ih]
theorem rd_last (l : List Int) (c : Int) : rd (l ++ [c]) (l.length : Int) = c := by
 simp [rd]
theorem mx_nat (a b : Nat) : mx (a : Int) (b : Int) = ((max a b : Nat) : Int) := by
 unfold mx
 split <;> omega
theorem dec_len (st : List Nat) : (dec st).length ≤ st.length := by
 induction st with
 | nil => exact Nat.le_refl _
 | cons c st ih => simp only [dec]; split <;> simp only [List.length_cons] <;> omega
theorem dec_le3 (st : List Nat) (h : ∀ c ∈ st, 1 ≤ c ∧ c ≤ 3) : ∀ c ∈ dec st, 1 ≤ c ∧ c ≤ 3 := by
 induction st with
 | nil => intro c hc; cases hc
 | cons c st ih =>
  have hc := h c List.mem_cons_self
  simp only [dec]
  split
  ·exact ih fun d hd => h d (List.mem_cons_of_mem _ hd)
  ·intro d hd
   rcases List.mem_cons.1 hd with e | e
   ·omega
   ·exact h d (List.mem_cons_of_mem _ e)
theorem Depth_open (l0 : List Nd) (i most c : Nat) (st : List Nat) (k : Nat) (hc : 1 ≤ c) (hl : st.length ≤ 1000000) :
  tree_Depth.l1 (k + 2) (most : Int) (encS (c :: st)) l0 (l0.length : Int) (i : Int) = tree_Depth.l0 k (most : Int) (encS (c :: st)) l0 (l0.length : Int) (wrap64 ((i : Int) + 1)) := by
 have len2 : (encS (c :: st)).length = st.length + 1 := by rw [encS_len]; rfl
 have hw2 : wrap64 (((st.length + 1 : Nat) : Int) - 1) = (st.length : Int) := by rw [wrap_id (by omega) (by omega)]; omega
 have hr2 : rd (encS (c :: st)) (st.length : Int) = (c : Int) := by
  have := rd_last (encS st) (c : Int)
  rw [encS_len] at this
  exact this
 simp only [tree_Depth.l1, tree_Depth.j2, len2, hw2, hr2]
 clear hw2
 have hb : ((c : Int) == 0) = false := by simp; omega
 rw [if_pos (by omega), if_pos (by omega), if_pos (by omega), hb, if_neg (by decide), if_neg (by omega)]
theorem Depth_done (l0 : List Nd) (i most : Nat) : ∀ (st : List Nat) (k : Nat), (∀ c ∈ st, 1 ≤ c ∧ c ≤ 3) → st.length ≤ 1000000 → 2 * st.length + 4 ≤ k →
  ∃ k', k ≤ k' + 2 * (st.length + 1 - (dec st).length) + 2 ∧ tree_Depth.l1 k (most : Int) (encS (0 :: st)) l0 (l0.length : Int) (i : Int) = (match dec st with | [] => some (most : Int) | s :: st' => tree_Depth.l0 k' (most : Int) (encS (s :: st')) l0 (l0.length : Int) (wrap64 ((i : Int) + 1))) := by
 intro st
 induction st with
 | nil =>
  intro k _ _ hk
  obtain ⟨k, rfl⟩ : ∃ j, k = j + 4 := ⟨k - 4, by omega⟩
  refine ⟨k, by simp only [dec, List.length_nil]; omega, ?_⟩
  simp [tree_Depth.l1, tree_Depth.j2, encS, dec, rd, wrap64]
 | cons c st ih =>
  intro k hs hl hk
  rw [List.length_cons] at hl hk
  obtain ⟨k, rfl⟩ : ∃ j, k = j + 2 := ⟨k - 2, by omega⟩
  have hc := hs c List.mem_cons_self
  have e1 : encS (0 :: c :: st) = encS (c :: st) ++ [(0 : Int)] := rfl
  have len1 : (encS (0 :: c :: st)).length = st.length + 2 := by rw [encS_len]; rfl
  have hw : wrap64 (((st.length + 2 : Nat) : Int) - 1) = ((st.length + 1 : Nat) : Int) := by rw [wrap_id (by omega) (by omega)]; omega
  have hr : rd (encS (0 :: c :: st)) ((st.length + 1 : Nat) : Int) = 0 := by
   have := rd_last (encS (c :: st)) 0
   rw [encS_len, List.length_cons] at this
   exact this
  have ht : (encS (0 :: c :: st)).take (((st.length + 1 : Nat) : Int)).toNat = encS (c :: st) := by
   rw [Int.toNat_natCast, e1, List.take_append_of_le_length (by rw [encS_len, List.length_cons]; omega), List.take_of_length_le (by rw [encS_len, List.length_cons]; omega)]
  have len2 : (encS (c :: st)).length = st.length + 1 := by rw [encS_len]; rfl
  have hw2 : wrap64 (((st.length + 1 : Nat) : Int) - 1) = (st.length : Int) := by rw [wrap_id (by omega) (by omega)]; omega
  have hr2 : rd (encS (c :: st)) (st.length : Int) = (c : Int) := by
   have := rd_last (encS st) (c : Int)
   rw [encS_len] at this
   exact this
  have hw3 : wrap64 ((c : Int) - 1) = ((c - 1 : Nat) : Int) := by rw [wrap_id (by omega) (by omega)]; omega
  have hset : (encS (c :: st)).set ((st.length : Int)).toNat ((c - 1 : Nat) : Int) = encS ((c - 1) :: st) := by
   rw [Int.toNat_natCast]
   simp only [encS]
   rw [List.set_append_right _ _ (by rw [encS_len]; omega), encS_len, Nat.sub_self]
   rfl
  have step : tree_Depth.l1 (k + 2) (most : Int) (encS (0 :: c :: st)) l0 (l0.length : Int) (i : Int) = tree_Depth.l1 k (most : Int) (encS ((c - 1) :: st)) l0 (l0.length : Int) (i : Int) := by
   rw [tree_Depth.l1, len1, hw, hr, tree_Depth.j2, len1, hw, ht]
   simp only [Option.bind_some]
   rw [len2, hw2, hr2, hw3, hset]
   clear hw hw2 hw3
   rw [if_pos (by omega), if_pos (by omega), if_pos (by omega), if_pos (by rfl), if_pos (by omega), if_pos (by omega), if_pos (by omega), if_pos (by omega), if_pos (by omega)]
  rw [step]
  clear hw hw2 hw3
  simp only [dec]
  by_cases h1 : c ≤ 1
  ·rw [if_pos h1]
   have e : c - 1 = 0 := by omega
   rw [e]
   obtain ⟨k', hk', he⟩ := ih k (fun d hd => hs d (List.mem_cons_of_mem _ hd)) (by omega) (by omega)
   have hdl := dec_len st
   exact ⟨k', by rw [List.length_cons]; omega, he⟩
  ·rw [if_neg h1]
   obtain ⟨k, rfl⟩ : ∃ j, k = j + 2 := ⟨k - 2, by omega⟩
   exact ⟨k, by simp only [List.length_cons]; omega, Depth_open l0 i most (c - 1) st k (by omega) (by omega)⟩
theorem Depth_l0 (l0 : List Nd) (hl : l0.length ≤ 1000000) : ∀ (l : List Nd) (i most k : Nat) (st : List Nat), l0.drop i = l → i ≤ l0.length → (∀ c ∈ st, 1 ≤ c ∧ c ≤ 3) → st.length ≤ i → (endW kdT l (need st)).isSome = true → 5 * l.length + 2 * st.length + 8 ≤ k →
  tree_Depth.l0 k (most : Int) (encS st) l0 (l0.length : Int) (i : Int) = some ((mach kdT l st most : Nat) : Int) := by
 intro l
 induction l with
 | nil =>
  intro i most k st hd hi hs hsl he hk
  have := need_pos st
  obtain ⟨n, hn⟩ : ∃ n, need st = n + 1 := ⟨need st - 1, by omega⟩
  rw [hn] at he
  cases he
 | cons x l ih =>
  intro i most k st hd hi hs hsl he hk
  rw [List.length_cons] at hk
  obtain ⟨k, rfl⟩ : ∃ j, k = j + 1 := ⟨k - 1, by omega⟩
  obtain ⟨hr, hlt, hd2⟩ := rd_drop l0 i x l hd
  have hp := need_pos st
  obtain ⟨n, hn⟩ : ∃ n, need st = n + 1 := ⟨need st - 1, by omega⟩
  have hb := kdB_bounds x.f0 x.f1
  have hk1 : kdT x = kdB x.f0 x.f1 := rfl
  rw [hn] at he
  simp only [endW] at he
  by_cases hx : kdT x < 0
  ·rw [if_pos hx] at he; cases he
  rw [if_neg hx] at he
  have he2 : (endW kdT l (n + (kdT x).toNat)).isSome = true := by
   cases h : endW kdT l (n + (kdT x).toNat) with
   | none => rw [h] at he; cases he
   | some m => rfl
  obtain ⟨c, hc⟩ : ∃ c, (kdT x).toNat = c := ⟨_, rfl⟩
  have hkc : kdB x.f0 x.f1 = (c : Int) := by omega
  have henc : encS st ++ [(c : Int)] = encS (c :: st) := rfl
  have hlen : (encS (c :: st)).length = st.length + 1 := by rw [encS_len]; rfl
  have hlim : (encS st).length < 17592186044416 := Nat.lt_of_le_of_lt (by rw [encS_len]; omega : (encS st).length ≤ 1000000) (by decide)
  simp only [tree_Depth.l0]
  rw [if_pos (by omega), if_pos (by omega), if_pos (by omega), hr, Kids_eq _ _ _ _ _ k (by omega), hkc]
  simp only [Option.bind_some]
  rw [if_pos hlim, henc, hlen, mx_nat]
  clear hlim
  by_cases h0 : c = 0
  ·subst h0
   obtain ⟨k', hk', e⟩ := Depth_done l0 i (max most (st.length + 1)) st k hs (by omega) (by omega)
   have w1 : wrap64 ((i : Int) + 1) = ((i + 1 : Nat) : Int) := by rw [wrap_id (by omega) (by omega)]; omega
   rw [e, w1, mach_cons0 kdT x l st most hc]
   clear w1 e
   unfold fin
   have hdl := dec_len st
   have hdn := dec_need st (fun d hd => (hs d hd).1)
   cases hds : dec st with
   | nil => rfl
   | cons s st' =>
    simp only []
    have h3 := dec_le3 st hs
    rw [hds] at h3 hdl hdn hk'
    have hne := hdn.2.1 (by simp)
    simp only [List.length_cons] at hdl hk'
    exact ih (i + 1) (max most (st.length + 1)) k' (s :: st') hd2 (by omega) h3 (by rw [List.length_cons]; omega) (by rw [hne, hn]; rw [hc] at he2; simpa using he2) (by rw [List.length_cons]; omega)
  ·obtain ⟨k, rfl⟩ : ∃ j, k = j + 2 := ⟨k - 2, by omega⟩
   have hdo := Depth_open l0 i (max most (st.length + 1)) c st k (by omega) (by omega)
   have hms := mach_consS kdT x l st most (by omega)
   have w1 : wrap64 ((i : Int) + 1) = ((i + 1 : Nat) : Int) := by rw [wrap_id (by omega) (by omega)]; omega
   rw [hdo, w1, hms, hc]
   clear w1 hdo hms
   exact ih (i + 1) _ k (c :: st) hd2 (by omega) (by
    intro d hd
    rcases List.mem_cons.1 hd with e | e
    ·omega
    ·exact hs d e) (by rw [List.length_cons]; omega) (by
    simp only [need]
    rw [hn, show c - 1 + (n + 1) = n + c by omega, ← hc]
    exact he2) (by rw [List.length_cons]; omega)
theorem Depth_eq (l0 : List Nd) (hl : l0.length ≤ 1000000) (k : Nat) (hk : 5 * l0.length + 10 ≤ k) : tree_Depth.f k l0 = some ((depL kdT l0 : Nat) : Int) := by
 unfold tree_Depth.f depL
 have e0 : (0 : Int) = ((0 : Nat) : Int) := rfl
 have := End_eq l0 hl 0 (by omega) k (by omega)
 rw [List.drop_zero, ← e0] at this
 rw [this]
 simp only [Option.bind_some]
 cases h : endW kdT l0 1 with
 | none => simp [outE]
 | some m =>
  simp only [outE]
  rw [if_pos trivial]
  exact Depth_l0 l0 hl l0 0 0 k [] rfl (by omega) (fun c hc => by cases hc) (by simp) (by simp only [need]; rw [h]; rfl) (by rw [List.length_nil]; omega)
end Go.Proofs.Ytdelccahgchadaa
end
section
namespace Go.Proofs.Ytdelccahgchadaa
open Go.RowKit Go.Lib Go.Proofs.Ytdelccahgchadaa.P Go.Proofs.YtdelccahgchadaaW.PrintWords Go.Proofs.YtdelccahgchadaaW.PrintMore
set_option linter.unusedVariables false
def isB (s : ByteArray) (kind : Int) : Bool :=
 if s.size ≤ 256 then (match lexL (L s) with | .inr [t] => t.text == L s && decide ((t.kind : Int) = kind) | _ => false) else false
def verbB (s : ByteArray) : Bool := s.toList == ([123] : List UInt8) || isB s 4 || isB s 3
def advB (s of : ByteArray) : Bool := s.toList == ([] : List UInt8) || (match L s with | [c] => (L of).contains c | _ => false)
end Go.Proofs.Ytdelccahgchadaa
end
section
namespace Go.Proofs.Ytdelccahgchadaa
open Go.RowKit Go.Lib Go.Proofs.Ytdelccahgchadaa.P Go.Proofs.YtdelccahgchadaaW.PrintWords Go.Proofs.YtdelccahgchadaaW.PrintMore
set_option linter.unusedVariables false
theorem rdS_get (l : List ByteArray) (i : Nat) (h : i < l.length) : rdOf ByteArray.empty l (i : Int) = l[i] := by
 unfold rdOf
 rw [Int.toNat_natCast, List.getD_eq_getElem?_getD, List.getElem?_eq_getElem h]
 rfl
def noB (s : ByteArray) : Bool := s.toList == ([] : List UInt8)
def mayN (x : Nd) : Bool :=
 if x.f0 = 1 then noB x.f1 && noB x.f2 && noB x.f3 && !(x.f4.length == 0) && decide (x.f4.length ≤ 100) && !(x.f4.any fun s => !mayB (L s))
 else if x.f0 = 2 ∨ x.f0 = 5 ∨ x.f0 = 6 then noB x.f1 && noB x.f2 && x.f4.length == 0 && isB x.f3 2
 else if x.f0 = 7 then noB x.f1 && noB x.f2 && x.f4.length == 0 && isB x.f3 3
 else if x.f0 = 8 then noB x.f1 && noB x.f2 && x.f4.length == 0 && noB x.f3
 else if x.f0 = 3 then x.f4.length == 0 && noB x.f3 && verbB x.f1 && advB x.f2 ⟨#[39, 47, 92, 96]⟩
 else if x.f0 = 4 then x.f4.length == 0 && noB x.f3 && verbB x.f1 && advB x.f2 ⟨#[39, 46]⟩
 else false
end Go.Proofs.Ytdelccahgchadaa
end
section
namespace Go.Proofs.Ytdelccahgchadaa
open Go.RowKit Go.Lib Go.Proofs.Ytdelccahgchadaa.P Go.Proofs.YtdelccahgchadaaW.PrintWords Go.Proofs.YtdelccahgchadaaW.PrintMore
set_option linter.unusedVariables false
def headB (x : Nd) : Bool := decide (x.f0 = 5 ∨ x.f0 = 6 ∨ x.f0 = 7)
end Go.Proofs.Ytdelccahgchadaa
end
section
namespace Go.Proofs.Ytdelccahgchadaa
open Go.RowKit Go.Lib Go.Proofs.Ytdelccahgchadaa.P Go.Proofs.YtdelccahgchadaaW.PrintWords Go.Proofs.YtdelccahgchadaaW.PrintMore
set_option linter.unusedVariables false
theorem Grow_eq (n : Nat) (h : n ≤ 1000000) : api_Node_64.f (n : Int) = some [] := by
 unfold api_Node_64.f
 have hw : wrap64 (n : Int) = (n : Int) := wrap_id (by omega) (by omega)
 rw [hw]
 clear hw
 rw [if_neg (by omega)]
 by_cases h0 : (n : Int) > 0
 ·have hb : ([] : List Nd).length + ((n : Int)).toNat < 1759218604441 := Nat.lt_of_le_of_lt (by rw [List.length_nil, Int.toNat_natCast]; omega : ([] : List Nd).length + ((n : Int)).toNat ≤ 1000000) (by decide)
  rw [if_pos h0, if_pos (by omega), if_pos hb]
  simp only [Option.bind_some]
  rw [if_pos (by omega)]
  rfl
 ·rw [if_neg h0]
def lens (l : List (List Nd)) : Nat := (l.map List.length).sum
theorem rdL_at (l : List (List Nd)) (i : Nat) (h : i < l.length) : rd_L4 l (i : Int) = l[i] := by
 unfold rd_L4
 rw [Int.toNat_natCast, List.getD_eq_getElem?_getD, List.getElem?_eq_getElem h]
 rfl
theorem Concat_l1 (l : List (List Nd)) (hl : l.length ≤ 1000) : ∀ (m i k : Nat) (acc : List Nd), l.length - i < m → m ≤ k → i ≤ l.length → acc.length + lens (l.drop i) ≤ 1000000 → api_Node_48.l1 k acc l (l.length : Int) (i : Int) = some (acc ++ (l.drop i).flatten) := by
 intro m
 induction m with
 | zero => intro i k acc h; omega
 | succ m ih =>
  intro i k acc h hk hi hs
  obtain ⟨k, rfl⟩ : ∃ j, k = j + 1 := ⟨k - 1, by omega⟩
  simp only [api_Node_48.l1]
  by_cases hlt : (i : Int) < (l.length : Int)
  ·have hil : i < l.length := by omega
   rw [List.drop_eq_getElem_cons hil] at hs ⊢
   simp only [lens, List.map_cons, List.sum_cons] at hs
   have hb : acc.length + l[i].length < 1759218604441 := Nat.lt_of_le_of_lt (by omega : acc.length + l[i].length ≤ 1000000) (by decide)
   rw [if_pos hlt, if_pos (by omega), if_pos hlt, rdL_at l i hil, if_pos hb]
   have hi2 := ih (i + 1) k (acc ++ l[i]) (by omega) (by omega) (by omega) (by rw [List.length_append]; unfold lens; omega)
   have hw : wrap64 ((i : Int) + 1) = ((i + 1 : Nat) : Int) := by rw [wrap_id (by omega) (by omega)]; omega
   rw [hw, hi2, List.flatten_cons, List.append_assoc]
  ·rw [if_neg hlt, List.drop_eq_nil_of_le (by omega)]
   simp
theorem Concat_l0 (l : List (List Nd)) (hl : l.length ≤ 1000) (hs : lens l ≤ 1000000) : ∀ (m i k n : Nat), l.length - i < m → m + 1100 ≤ k → i ≤ l.length → n + lens (l.drop i) ≤ 1000000 → api_Node_48.l0 k l (n : Int) l (l.length : Int) (i : Int) = some l.flatten := by
 intro m
 induction m with
 | zero => intro i k n h; omega
 | succ m ih =>
  intro i k n h hk hi hn
  obtain ⟨k, rfl⟩ : ∃ j, k = j + 1 := ⟨k - 1, by omega⟩
  simp only [api_Node_48.l0]
  by_cases hlt : (i : Int) < (l.length : Int)
  ·have hil : i < l.length := by omega
   rw [List.drop_eq_getElem_cons hil] at hn
   simp only [lens, List.map_cons, List.sum_cons] at hn
   have hi2 := ih (i + 1) k (n + l[i].length) (by omega) (by omega) (by omega) (by unfold lens; omega)
   rw [if_pos hlt, if_pos (by omega), if_pos hlt, rdL_at l i hil]
   have hw0 : wrap64 ((n : Int) + (l[i].length : Int)) = ((n + l[i].length : Nat) : Int) := by rw [wrap_id (by omega) (by omega)]; omega
   have hw : wrap64 ((i : Int) + 1) = ((i + 1 : Nat) : Int) := by rw [wrap_id (by omega) (by omega)]; omega
   rw [hw0, hw]
   clear hw hw0
   rw [if_neg (by omega), hi2]
  ·have hg := Grow_eq n (by omega)
   rw [if_neg hlt, hg]
   simp only [Option.bind_some]
   have e0 : (0 : Int) = ((0 : Nat) : Int) := rfl
   rw [e0, Concat_l1 l hl (l.length + 1) 0 k [] (by omega) (by omega) (by omega) (by rw [List.drop_zero, List.length_nil]; omega), List.drop_zero, List.nil_append]
theorem Concat_eq (l : List (List Nd)) (hl : l.length ≤ 1000) (hs : lens l ≤ 1000000) (k : Nat) (hk : 2200 ≤ k) : api_Node_48.f k l = some l.flatten := by
 unfold api_Node_48.f
 have e0 : (0 : Int) = ((0 : Nat) : Int) := rfl
 rw [e0]
 exact Concat_l0 l hl hs (l.length + 1) 0 k 0 (by omega) (by omega) (by omega) (by rw [List.drop_zero]; omega)
theorem Node_eq (a : Int) (b c d : ByteArray) (e : List ByteArray) (l : List (List Nd)) (hl : l.length ≤ 1000) (hs : lens l ≤ 1000000) (k : Nat) (hk : 2200 ≤ k) : tree_Node.f k a b c d e l = some (⟨a, b, c, d, e⟩ :: l.flatten) := by
 unfold tree_Node.f
 rw [Concat_eq l hl hs k hk]
 simp only [Option.bind_some]
 have hf : l.flatten.length = lens l := by simp [lens, List.length_flatten]
 have hb : [(⟨a, b, c, d, e⟩ : Nd)].length + l.flatten.length < 1759218604441 := Nat.lt_of_le_of_lt (by rw [hf, List.length_singleton]; omega : [(⟨a, b, c, d, e⟩ : Nd)].length + l.flatten.length ≤ 1000001) (by decide)
 rw [if_pos hb]
 rfl
end Go.Proofs.Ytdelccahgchadaa
end
section
namespace Go.Proofs.Ytdelccahgchadaa.P
open Go.RowKit Go.Proofs.YtdelccahgchadaaW.PrintWords Go.Proofs.YtdelccahgchadaaW.PrintLast Go.Proofs.YtdelccahgchadaaW.PrintMore
attribute [local go_sem] max2_int min2_int max_two min_two max_three min_three max_four min_four   
set_option linter.unusedVariables false
set_option linter.unusedSimpArgs false
def parse_parser_literal.l0 : Nat → List (S71) → Int → Int → Bool → Int → ByteArray → ByteArray → ByteArray → List ByteArray → Option ((List (S25)) × Int × Int × Bool)
 | 0, _, _, _, _, _, _, _, _, _ => none
 | k + 1, x1000, x1001, x1002, x1003, x179000, x179001, x179002, x179003, x179004 => (parse_parser_look.f x1000 x1001 x1002 x1003 0).bind fun bt179 => (if bt179.1 = 1 then (if (x179004.length : Int) = 100 then ((tree_Node.f k x179000 x179001 x179002 x179003 x179004 ([] : List (List (S25)))).bind fun t188 => (some (t188, bt179.2.2.2.1, bt179.2.2.2.2.1, true))) else ((parse_parser_look.f x1000 bt179.2.2.2.1 bt179.2.2.2.2.1 bt179.2.2.2.2.2 0).bind fun bt191 => ((lex_Number.f k bt191.2.1).bind fun bt197 => (if x179004.length < 8796093022208 then (parse_parser_literal.l0 k x1000 (wrap64 (bt191.2.2.2.1 + 1)) bt191.2.2.2.2.1 bt191.2.2.2.2.2 x179000 x179001 x179002 x179003 (x179004 ++ [bt197.1])) else (none))))) else ((tree_Node.f k x179000 x179001 x179002 x179003 x179004 ([] : List (List (S25)))).bind fun t185 => (some (t185, bt179.2.2.2.1, bt179.2.2.2.2.1, bt179.2.2.2.2.2))))
def parse_parser_literal.f (k : Nat) (s0_0 : List (S71)) (s0_1 : Int) (s0_2 : Int) (s0_3 : Bool) : Option ((List (S25)) × Int × Int × Bool) := parse_parser_literal.l0 k s0_0 s0_1 s0_2 s0_3 1 (⟨#[]⟩ : ByteArray) (⟨#[]⟩ : ByteArray) (⟨#[]⟩ : ByteArray) ([] : List ByteArray)
theorem parse_parser_literal.mono_l : ∀ k, (∀ y0 y1 y2 y3 y4 y5 y6 y7 y8, LeO (parse_parser_literal.l0 k y0 y1 y2 y3 y4 y5 y6 y7 y8) (parse_parser_literal.l0 (k + 1) y0 y1 y2 y3 y4 y5 y6 y7 y8))
 | 0 => fun _ _ _ _ _ _ _ _ _ r h => by simp [parse_parser_literal.l0] at h
 | k + 1 => by
  have ih0 := parse_parser_literal.mono_l k
  ·intro y0 y1 y2 y3 y4 y5 y6 y7 y8
   unfold parse_parser_literal.l0
   repeat' first
   | (with_reducible exact ih0 _ _ _ _ _ _ _ _ _)
   | (with_reducible exact lex_Number.mono _ _)
   | (with_reducible exact tree_Node.mono _ _ _ _ _ _ _)
   | (with_reducible exact LeO.refl _)
   | (with_reducible exact LeO.none _)
   | (with_reducible refine LeO.ite ?_ ?_)
   | (with_reducible refine LeO.bind ?_ (fun _ => ?_))
   | exact ih0 _ _ _ _ _ _ _ _ _
   | exact lex_Number.mono _ _
   | exact tree_Node.mono _ _ _ _ _ _ _
   | exact LeO.none _
   | refine LeO.ite ?_ ?_
   | refine LeO.bind ?_ (fun _ => ?_)
theorem parse_parser_literal.mono : ∀ a0 a1 a2 a3 k, LeO (parse_parser_literal.f k a0 a1 a2 a3) (parse_parser_literal.f (k + 1) a0 a1 a2 a3) := by
 intro a0 a1 a2 a3 k
 have ih0 := parse_parser_literal.mono_l k
 unfold parse_parser_literal.f
 repeat' first
   | (with_reducible exact ih0 _ _ _ _ _ _ _ _ _)
   | (with_reducible exact lex_Number.mono _ _)
   | (with_reducible exact tree_Node.mono _ _ _ _ _ _ _)
   | (with_reducible exact LeO.refl _)
   | (with_reducible exact LeO.none _)
   | (with_reducible refine LeO.ite ?_ ?_)
   | (with_reducible refine LeO.bind ?_ (fun _ => ?_))
   | exact ih0 _ _ _ _ _ _ _ _ _
   | exact lex_Number.mono _ _
   | exact tree_Node.mono _ _ _ _ _ _ _
   | exact LeO.none _
   | refine LeO.ite ?_ ?_
   | refine LeO.bind ?_ (fun _ => ?_)
set_option maxHeartbeats 8000000 in
set_option maxRecDepth 100000 in
theorem parse_parser_literal.calls (k : Nat) (g : Nat) (s0_0 : List (S71)) (s0_1 : Int) (s0_2 : Int) (s0_3 : Bool) (r1 : List (S25)) (r2 : Int) (r3 : Int) (r4 : Bool) (w0 w : World) (hI : IsS83 w0 w g s0_0 s0_1 s0_2 s0_3) (hB : Below w0.heap.size w0 w) (h : parse_parser_literal.f k s0_0 s0_1 s0_2 s0_3 = some (r1, r2, r3, r4)) :
  Calls Try.prog 130 #[.pointer (some ⟨g, 0, none⟩)] w fun e w' => ∃ v0_ : Value, e = .returned (v0_) ∧ Kd.N k25 25 w' w.heap.size (fun k_ => (w.heap.size ≤ k_)) v0_ r1 ∧ IsS83 w0 w' g s0_0 r2 r3 r4 ∧ Below w0.heap.size w0 w' ∧ KeepBut w w' g none := by
 have hu25 := Try.underlying25
 have HI0 := am hI
 have HK := am (KeepBut.refl w g none)
 have HL := am hB.size
 clear hI
 have HW0 := am hB.size
 have HB := am hB
 clear hB
 have H : (parse_parser_literal.l0 k s0_0 s0_1 s0_2 s0_3 1 (⟨#[]⟩ : ByteArray) (⟨#[]⟩ : ByteArray) (⟨#[]⟩ : ByteArray) ([] : List ByteArray)) = some (r1, r2, r3, r4) := h
 clear h
 have H' := am H
 clear H
 go_enter Try.func130, Try.ntmps130
 go_wp2_with ((with_reducible refine gD 3 rfl ?_); refine bx 3 #[.int .i64 0, .string (⟨#[]⟩ : ByteArray), .string (⟨#[]⟩ : ByteArray), .string (⟨#[]⟩ : ByteArray), .slice none 0 0] 25 ?_; intro gb178 hg w2 hbox hb; replace HB := am (below_step (kLI HB) hb); have BK178 := am hbox; have GW178 := am ((by rw [hg]; exact (keep_size (w := w) (g := g) (row := none) (kK HK)) : w.heap.size ≤ gb178)); have GE178 := am ((Nat.le_trans HW0.out (by rw [hg]; exact (keep_size (w := w) (g := g) (row := none) (kK HK)) : w.heap.size ≤ gb178) : w0.heap.size ≤ gb178)); replace HK := am (KeepBut.trans (kK HK) (KeepBut.of_below hb g none) (.inl rfl)); have NB0_178 := am ((by rw [hg]; exact Nat.ne_of_lt (IsS83.lt (show IsS83 w0 _ g s0_0 s0_1 s0_2 s0_3 from yI)) : g ≠ gb178)); have NB178_0 := am ((by rw [hg]; exact Nat.ne_of_gt (IsS83.lt (show IsS83 w0 _ g s0_0 s0_1 s0_2 s0_3 from yI)) : gb178 ≠ g)); replace HI0 := am (IsS83.below yI hb); clear hb hbox hg; have hnb3 := NB178_0.out; have hnc3 := NB0_178.out; obtain ⟨hcz4_0, hcz4_1, hcz4_2, hcz4_3, hcz4_4, hfz4_0, hfz4_1, hfz4_2, hfz4_3, hfz4_4⟩ := bk5 BK178.out)
 go_loopg [] k (fun kq w' => ∃ (x1001_1 : Int) (x1002_1 : Int) (x1003_1 : Bool) (x179004_1 : List ByteArray) (u179004 : Value), Aside0 (parse_parser_literal.l0 kq s0_0 x1001_1 x1002_1 x1003_1 1 (⟨#[]⟩ : ByteArray) (⟨#[]⟩ : ByteArray) (⟨#[]⟩ : ByteArray) x179004_1 = some (r1, r2, r3, r4)) ∧ Aside0 (kq ≤ k) ∧ Aside0 (Kd.R Kd.string 9 w' w.heap.size (fun k_ => (w.heap.size ≤ k_)) u179004 x179004_1) ∧ Aside0 (w'.heap[gb178]? = some (.cells #[.int .i64 1, .string (⟨#[]⟩ : ByteArray), .string (⟨#[]⟩ : ByteArray), .string (⟨#[]⟩ : ByteArray), u179004] 25 (0, 0))) ∧ Aside0 (IsS83 w0 w' g s0_0 x1001_1 x1002_1 x1003_1) ∧ Aside0 (KeepBut w w' g none) ∧ Aside0 (Below w0.heap.size w0 w'))
 case atStart => exact ⟨(s0_1), (s0_2), (s0_3), (([] : List ByteArray)), (.slice none 0 0), H', ⟨Nat.le_refl _⟩, ⟨by first | exact Kd.R_nil _ _ _ _ _ | exact Kd.N_nil _ _ _ _ _ | exact Kd.V_nil _ _ _ _ _ | exact Kd.Q_nil _ _ _ _ _ | exact Kd.S_nil _ _ _ _ _⟩, ⟨kM BK178⟩, ⟨yI⟩, ⟨(kK HK)⟩, ⟨(kLI HB)⟩⟩
 case round =>
  clear H'
  try clear c1
  try clear p2
  try clear c3
  try clear hcz4_0
  try clear hcz4_1
  try clear hcz4_2
  try clear hcz4_3
  try clear hcz4_4
  try clear hfz4_0
  try clear hfz4_1
  try clear hfz4_2
  try clear hfz4_3
  try clear hfz4_4
  obtain ⟨x1001_1, x1002_1, x1003_1, x179004_1, u179004, HA, HK1, HO_179004, BK178, HI0, HK, HB⟩ := hrel
  cases gk with
  | zero => exact absurd HA.out (by simp [parse_parser_literal.l0])
  | succ k1 =>
   have H := HA.out
   clear HA
   simp only [parse_parser_literal.l0] at H
   replace H := Option.bind_eq_some_iff.mp H
   obtain ⟨⟨t179, t180, t181, t182, t183, t184⟩, A50, H⟩ := H
   try dsimp only at H
   have A5 := am A50
   clear A50
   by_cases c6 : t179 = 1
   ·rw [if_pos c6] at H
    have c6b0 := eT c6
    have c6b1 := nF c6
    clear c6
    by_cases c7 : (x179004_1.length : Int) = 100
    ·rw [if_pos c7] at H
     have c7b0 := eT c7
     have c7b1 := nF c7
     clear c7
     replace H := Option.bind_eq_some_iff.mp H
     obtain ⟨t188, A80, H⟩ := H
     try dsimp only at H
     have A8 := am A80
     clear A80
     simp only [Option.some.injEq, Prod.mk.injEq] at H
     obtain ⟨rfl, rfl, rfl, rfl⟩ := H
     go_wp2_with (first | ((with_reducible refine gC 67 rfl ?_); refine gL (some 8) Try.func67 #[.pointer (some ⟨g, 0, none⟩), .int .i64 0] ?_; (with_reducible refine (parse_parser_look.calls _ _ _ _ _ _ _ _ _ _ _ _ w0 _ ?side1 ?side2 A5.out).mono ?_); (case side1 => exact yI); (case side2 => exact (kLI HB)); rintro e w9 ⟨rfl, hi, hb, hk⟩; refine ⟨_, rfl, ?_⟩; replace HO_179004 := am (Kd.R_mono (Kd.R_keep (IsS83.apart (show IsS83 w0 _ g s0_0 x1001_1 x1002_1 x1003_1 from yI) (rB HO_179004) (by decide)) hk (fun _ h => h.2)) (fun _ h => h.1)); replace BK178 := am (KeepBut.blk hk (kB BK178) NB178_0.out (by simp)); replace HK := am (KeepBut.trans (kK HK) hk (.inl rfl)); replace HB := am hb; replace HI0 := am hi; (try clear hi hb hk); have hnb10 := NB178_0.out; have hnc10 := NB0_178.out; obtain ⟨hcz11_0, hcz11_1, hcz11_2, hcz11_3, hcz11_4, hfz11_0, hfz11_1, hfz11_2, hfz11_3, hfz11_4⟩ := bk5 BK178.out; obtain ⟨Ao12, co12, eo12⟩ := Kd.R_slice HO_179004.out; subst eo12; obtain ⟨ASz13_0, cSz13_0, HSz13_0, hcz13_0, hcz13_1, hcz13_2, hcz13_3, hfz13_1, hfz13_2, hfz13_3⟩ := IsS83.look HI0.out) | ((with_reducible refine gate_store (t := 4) (p := 17) rfl ?_); refine store_event (t := 4) (p := 17) (v := ?vo_w14) (w1 := (w9.setCell ⟨g, 3, none⟩ (.bool true))) ?hg ?ho ?hn ?hr ?_; (case ho => rfl); (case hg => rfl); (case hn => rfl); (case hr => first | (go_simp; done) | (go_simp; rfl)); intro w14 hw; have n0_ : Aside0 (Kd.R Kd.string 9 w14 w.heap.size (fun k_ => (w.heap.size ≤ k_)) (.slice Ao12 x179004_1.length co12) x179004_1) := ⟨(by rw [hw]; exact (by (with_reducible repeat (first | apply Kd.R_alloc | apply Kd.R_drewN | apply Kd.R_drew)); exact Kd.R_mono (Kd.R_far (p := ⟨g, 3, none⟩) (IsS83.apart HI0.out HO_179004.out (by decide)) (fun _ hk => hk.2) (.bool true)) (fun _ hk => hk.1)))⟩; have n1_ : Aside0 (w14.heap[gb178]? = some (.cells #[.int .i64 1, .string (⟨#[]⟩ : ByteArray), .string (⟨#[]⟩ : ByteArray), .string (⟨#[]⟩ : ByteArray), .slice Ao12 x179004_1.length co12] 25 (0, 0))) := ⟨(by rw [hw]; exact (kM BK178))⟩; have n2_ : Aside0 (IsS83 w0 w14 g s0_0 t182 t183 true) := ⟨(by rw [hw]; exact yI)⟩; have n3_ : Aside0 (KeepBut w w14 g none) := ⟨(by rw [hw]; exact (kK HK))⟩; have n4_ : Aside0 (Below w0.heap.size w0 w14) := ⟨(by rw [hw]; exact (kLI HB))⟩; clear hw; clear HO_179004; clear BK178; clear HI0; clear HK; clear HB; have HO_179004 := n0_; have BK178 := n1_; have HI0 := n2_; have HK := n3_; have HB := n4_; clear n0_ n1_ n2_ n3_ n4_; obtain ⟨hcz15_0, hcz15_1, hcz15_2, hcz15_3, hcz15_4, hfz15_0, hfz15_1, hfz15_2, hfz15_3, hfz15_4⟩ := bk5 BK178.out) | ((with_reducible refine gC 32 rfl ?_); refine gL (some 39) Try.func32 #[.agg #[.int .i64 1, .string (⟨#[]⟩ : ByteArray), .string (⟨#[]⟩ : ByteArray), .string (⟨#[]⟩ : ByteArray), .slice Ao12 x179004_1.length co12], .slice none 0 0] ?_; (refine (tree_Node.calls _ _ _ _ _ (fun k_ => some k_ = (.slice Ao12 x179004_1.length co12 : Value).ownBlock) _ _ _ (fun k_ => False) _ _ _ _ _ ?side1 ?side2 A8.out).mono ?_); (case side1 => exact Kd.R_V (Kd.R_tight rfl (IsS83.apart HI0.out (Kd.R_types (HO_179004.out) BK178.out (by decide)) (by decide)))); (case side2 => exact Kd.V_nil _ _ _ _ _); rintro e w16 ⟨v189, rfl, ho0, hb⟩; refine ⟨_, rfl, ?_⟩; have HO190 := am (Kd.N_lower (Kd.N_mono (ok' := fun k_ => (w.heap.size ≤ k_) ∧ k_ ≠ gb178 ∧ k_ ≠ g) ho0 (fun k_ hk_ => ⟨Or.elim hk_ (fun hs_ => Or.elim hs_ (fun hs_ => ((IsS83.apart HI0.out (Kd.R_types (HO_179004.out) BK178.out (by decide)) (by decide)).1 k_ hs_.symm).1.1) (fun hs_ => (hs_).elim)) (fun hn_ => (Nat.le_trans (keep_size (w := w) (g := g) (row := none) (kK HK)) hn_)), Or.elim hk_ (fun hs_ => Or.elim hs_ (fun hs_ => ((IsS83.apart HI0.out (Kd.R_types (HO_179004.out) BK178.out (by decide)) (by decide)).1 k_ hs_.symm).1.2) (fun hs_ => (hs_).elim)) (fun hn_ => (Kd.freshB (g := gb178) (o := .cells #[.int .i64 1, .string (⟨#[]⟩ : ByteArray), .string (⟨#[]⟩ : ByteArray), .string (⟨#[]⟩ : ByteArray), .slice Ao12 x179004_1.length co12] 25 (0, 0)) (kB BK178) k_ hn_)), Or.elim hk_ (fun hs_ => Or.elim hs_ (fun hs_ => ((IsS83.apart HI0.out (Kd.R_types (HO_179004.out) BK178.out (by decide)) (by decide)).1 k_ hs_.symm).2) (fun hs_ => (hs_).elim)) (fun hn_ => (IsS83.fresh yI k_ hn_))⟩)) (keep_size (w := w) (g := g) (row := none) (kK HK))); replace HO_179004 := am (Kd.R_below (rB HO_179004) hb); replace BK178 := am (bB (kB BK178) hb); replace HK := am (KeepBut.trans (kK HK) (KeepBut.of_below hb g none) (.inl rfl)); replace HB := am (below_step (kLI HB) hb); replace HI0 := am (IsS83.below yI hb); (try clear ho0 hb)))
     go_ret
     exact ⟨_, yE, Kd.N_mono (nB HO190) (fun _ hk => hk.1), yI, (kLI HB), (kK HK)⟩
    ·rw [if_neg c7] at H
     have c7b0 := eF c7
     have c7b1 := nT c7
     replace H := Option.bind_eq_some_iff.mp H
     obtain ⟨⟨t191, t192, t193, t194, t195, t196⟩, A170, H⟩ := H
     try dsimp only at H
     have A17 := am A170
     clear A170
     replace H := Option.bind_eq_some_iff.mp H
     obtain ⟨⟨t197, t198⟩, A180, H⟩ := H
     try dsimp only at H
     have A18 := am A180
     clear A180
     by_cases c19 : x179004_1.length < 8796093022208
     ·rw [if_pos c19] at H
      have LMc19 := am c19
      clear c19
      obtain ⟨y199, hy199⟩ : ∃ y_ : List ByteArray, y_ = (x179004_1 ++ [t197]) := ⟨_, rfl⟩
      replace H : (parse_parser_literal.l0 k1 s0_0 (wrap64 (t194 + 1)) t195 t196 1 (⟨#[]⟩ : ByteArray) (⟨#[]⟩ : ByteArray) (⟨#[]⟩ : ByteArray) y199) = some (r1, r2, r3, r4) := by first | (rw [hy199]; with_reducible exact H) | (have H2_ := (Option.bind_some _ _).symm.trans H; rw [hy199]; with_reducible exact H2_) | (have H2_ := (Option.bind_some _ _).symm.trans H; with_reducible exact H2_) | with_reducible exact H | (rw [hy199]; exact H) | exact H
      have Ny199 := am hy199
      clear hy199
      have H' := am H
      clear H
      go_wp2_with (first | ((with_reducible refine gC 67 rfl ?_); refine gL (some 8) Try.func67 #[.pointer (some ⟨g, 0, none⟩), .int .i64 0] ?_; (with_reducible refine (parse_parser_look.calls _ _ _ _ _ _ _ _ _ _ _ _ w0 _ ?side1 ?side2 A5.out).mono ?_); (case side1 => exact yI); (case side2 => exact (kLI HB)); rintro e w20 ⟨rfl, hi, hb, hk⟩; refine ⟨_, rfl, ?_⟩; replace HO_179004 := am (Kd.R_mono (Kd.R_keep (IsS83.apart (show IsS83 w0 _ g s0_0 x1001_1 x1002_1 x1003_1 from yI) (rB HO_179004) (by decide)) hk (fun _ h => h.2)) (fun _ h => h.1)); replace BK178 := am (KeepBut.blk hk (kB BK178) NB178_0.out (by simp)); replace HK := am (KeepBut.trans (kK HK) hk (.inl rfl)); replace HB := am hb; replace HI0 := am hi; (try clear hi hb hk); have hnb21 := NB178_0.out; have hnc21 := NB0_178.out; obtain ⟨hcz22_0, hcz22_1, hcz22_2, hcz22_3, hcz22_4, hfz22_0, hfz22_1, hfz22_2, hfz22_3, hfz22_4⟩ := bk5 BK178.out; obtain ⟨Ao23, co23, eo23⟩ := Kd.R_slice HO_179004.out; subst eo23) | ((with_reducible refine gC 67 rfl ?_); refine gL (some 20) Try.func67 #[.pointer (some ⟨g, 0, none⟩), .int .i64 0] ?_; (with_reducible refine (parse_parser_look.calls _ _ _ _ _ _ _ _ _ _ _ _ w0 _ ?side1 ?side2 A17.out).mono ?_); (case side1 => exact yI); (case side2 => exact (kLI HB)); rintro e w24 ⟨rfl, hi, hb, hk⟩; refine ⟨_, rfl, ?_⟩; replace HO_179004 := am (Kd.R_mono (Kd.R_keep (IsS83.apart (show IsS83 w0 _ g s0_0 t182 t183 t184 from yI) (rB HO_179004) (by decide)) hk (fun _ h => h.2)) (fun _ h => h.1)); replace BK178 := am (KeepBut.blk hk (kB BK178) NB178_0.out (by simp)); replace HK := am (KeepBut.trans (kK HK) hk (.inl rfl)); replace HB := am hb; replace HI0 := am hi; (try clear hi hb hk)) | ((with_reducible refine gC 91 rfl ?_); refine gL (some 22) Try.func91 #[.string t192] ?_; (with_reducible refine (lex_Number.calls _ _ _ _ _ A18.out).mono ?_); rintro e w25 ⟨rfl, hb⟩; refine ⟨_, rfl, ?_⟩; replace HO_179004 := am (Kd.R_below (rB HO_179004) hb); replace BK178 := am (bB (kB BK178) hb); replace HK := am (KeepBut.trans (kK HK) (KeepBut.of_below hb g none) (.inl rfl)); replace HB := am (below_step (kLI HB) hb); replace HI0 := am (IsS83.below yI hb); (try clear hb); obtain ⟨hcz26_0, hcz26_1, hcz26_2, hcz26_3, hcz26_4, hfz26_0, hfz26_1, hfz26_2, hfz26_3, hfz26_4⟩ := bk5 BK178.out) | ((with_reducible refine gate_builtin (b := .append) (xs := #[.tmp 26, .tmp 28]) rfl ?_); at_builtin; refine Kd.R_append Kd.string w.heap.size rfl (.tmp 26) (.tmp 28) 23 9 (.string ⟨#[]⟩) 16 rfl Try.underlying23 info9 rfl (by decide) (by omega) (.slice Ao23 x179004_1.length co23) x179004_1 t197 [.string t197] (fun k_ => (w.heap.size ≤ k_)) (fun _ => False) rfl rfl ?aP (fun _ hk => hk.elim) ?aF ?aO (Below.refl _ _) ?aS ?aL ?_; (case aP => exact rfl); (case aF => exact (fun k_ hk => (Nat.le_trans (keep_size (w := w) (g := g) (row := none) (kK HK)) hk))); (case aO => exact (rB HO_179004)); (case aS => exact (keep_size (w := w) (g := g) (row := none) (kK HK))); (case aL => have := LMc19.out; omega); intro v200 w27 ho hb hg hat; rw [← Ny199.out] at ho; have n0_ := am (blk_grown (g := gb178) (o := .cells #[.int .i64 1, .string (⟨#[]⟩ : ByteArray), .string (⟨#[]⟩ : ByteArray), .string (⟨#[]⟩ : ByteArray), .slice Ao23 x179004_1.length co23] 25 (0, 0)) (kB BK178) hg (Kd.R_ne HO_179004.out BK178.out (by decide))); have n1_ := am (IsS83.grown yI hg (IsS83.own_ne HI0.out HO_179004.out (by decide))); have n2_ := am (below_weaken (kLI HB) HL.out hb); have n3_ := am (KeepBut.trans (kK HK) (KeepBut.of_grown hg g) (Kd.R_base2 HO_179004.out)); have n4_ := am (ho); clear BK178; clear HI0; clear HB; clear HK; clear HO_179004; have BK178 := n0_; have HI0 := n1_; have HB := n2_; have HK := n3_; have HO201 := n4_; clear n0_ n1_ n2_ n3_ n4_; clear ho hb hg hat; obtain ⟨Ao28, co28, eo28⟩ := Kd.R_slice HO201.out; subst eo28; obtain ⟨hcz29_0, hcz29_1, hcz29_2, hcz29_3, hcz29_4, hfz29_0, hfz29_1, hfz29_2, hfz29_3, hfz29_4⟩ := bk5 BK178.out; obtain ⟨ASz30_0, cSz30_0, HSz30_0, hcz30_0, hcz30_1, hcz30_2, hcz30_3, hfz30_1, hfz30_2, hfz30_3⟩ := IsS83.look HI0.out))
      go_roundg k1
      case measure => have := HK1.out; omega
      case rel => exact ⟨(wrap64 (t194 + 1)), (t195), (t196), (y199), (.slice Ao28 y199.length co28), H', ⟨by have := HK1.out; omega⟩, ⟨by (with_reducible repeat (first | apply Kd.R_alloc | apply Kd.R_drewN | apply Kd.R_drew)); exact Kd.R_mono (Kd.R_far (p := ⟨g, 1, none⟩) (Kd.R_far (p := ⟨gb178, 4, none⟩) (IsS83.apart HI0.out (Kd.R_types HO201.out BK178.out (by decide)) (by decide)) (fun _ hk => hk.1.2) (.slice Ao28 y199.length co28)) (fun _ hk => hk.2) (.int .i64 (wrap64 (t194 + 1)))) (fun _ hk => hk.1.1)⟩, ⟨kM BK178⟩, ⟨yI⟩, ⟨(kK HK)⟩, ⟨(kLI HB)⟩⟩
     ·rw [if_neg c19] at H
      exact absurd H (by simp)
   ·rw [if_neg c6] at H
    have c6b0 := eF c6
    have c6b1 := nT c6
    replace H := Option.bind_eq_some_iff.mp H
    obtain ⟨t185, A310, H⟩ := H
    try dsimp only at H
    have A31 := am A310
    clear A310
    simp only [Option.some.injEq, Prod.mk.injEq] at H
    obtain ⟨rfl, rfl, rfl, rfl⟩ := H
    go_wp2_with (first | ((with_reducible refine gC 67 rfl ?_); refine gL (some 8) Try.func67 #[.pointer (some ⟨g, 0, none⟩), .int .i64 0] ?_; (with_reducible refine (parse_parser_look.calls _ _ _ _ _ _ _ _ _ _ _ _ w0 _ ?side1 ?side2 A5.out).mono ?_); (case side1 => exact yI); (case side2 => exact (kLI HB)); rintro e w32 ⟨rfl, hi, hb, hk⟩; refine ⟨_, rfl, ?_⟩; replace HO_179004 := am (Kd.R_mono (Kd.R_keep (IsS83.apart (show IsS83 w0 _ g s0_0 x1001_1 x1002_1 x1003_1 from yI) (rB HO_179004) (by decide)) hk (fun _ h => h.2)) (fun _ h => h.1)); replace BK178 := am (KeepBut.blk hk (kB BK178) NB178_0.out (by simp)); replace HK := am (KeepBut.trans (kK HK) hk (.inl rfl)); replace HB := am hb; replace HI0 := am hi; (try clear hi hb hk); have hnb33 := NB178_0.out; have hnc33 := NB0_178.out; obtain ⟨hcz34_0, hcz34_1, hcz34_2, hcz34_3, hcz34_4, hfz34_0, hfz34_1, hfz34_2, hfz34_3, hfz34_4⟩ := bk5 BK178.out; obtain ⟨Ao35, co35, eo35⟩ := Kd.R_slice HO_179004.out; subst eo35) | ((with_reducible refine gC 32 rfl ?_); refine gL (some 39) Try.func32 #[.agg #[.int .i64 1, .string (⟨#[]⟩ : ByteArray), .string (⟨#[]⟩ : ByteArray), .string (⟨#[]⟩ : ByteArray), .slice Ao35 x179004_1.length co35], .slice none 0 0] ?_; (refine (tree_Node.calls _ _ _ _ _ (fun k_ => some k_ = (.slice Ao35 x179004_1.length co35 : Value).ownBlock) _ _ _ (fun k_ => False) _ _ _ _ _ ?side1 ?side2 A31.out).mono ?_); (case side1 => exact Kd.R_V (Kd.R_tight rfl (IsS83.apart HI0.out (Kd.R_types (HO_179004.out) BK178.out (by decide)) (by decide)))); (case side2 => exact Kd.V_nil _ _ _ _ _); rintro e w36 ⟨v186, rfl, ho0, hb⟩; refine ⟨_, rfl, ?_⟩; have HO187 := am (Kd.N_lower (Kd.N_mono (ok' := fun k_ => (w.heap.size ≤ k_) ∧ k_ ≠ gb178 ∧ k_ ≠ g) ho0 (fun k_ hk_ => ⟨Or.elim hk_ (fun hs_ => Or.elim hs_ (fun hs_ => ((IsS83.apart HI0.out (Kd.R_types (HO_179004.out) BK178.out (by decide)) (by decide)).1 k_ hs_.symm).1.1) (fun hs_ => (hs_).elim)) (fun hn_ => (Nat.le_trans (keep_size (w := w) (g := g) (row := none) (kK HK)) hn_)), Or.elim hk_ (fun hs_ => Or.elim hs_ (fun hs_ => ((IsS83.apart HI0.out (Kd.R_types (HO_179004.out) BK178.out (by decide)) (by decide)).1 k_ hs_.symm).1.2) (fun hs_ => (hs_).elim)) (fun hn_ => (Kd.freshB (g := gb178) (o := .cells #[.int .i64 1, .string (⟨#[]⟩ : ByteArray), .string (⟨#[]⟩ : ByteArray), .string (⟨#[]⟩ : ByteArray), .slice Ao35 x179004_1.length co35] 25 (0, 0)) (kB BK178) k_ hn_)), Or.elim hk_ (fun hs_ => Or.elim hs_ (fun hs_ => ((IsS83.apart HI0.out (Kd.R_types (HO_179004.out) BK178.out (by decide)) (by decide)).1 k_ hs_.symm).2) (fun hs_ => (hs_).elim)) (fun hn_ => (IsS83.fresh yI k_ hn_))⟩)) (keep_size (w := w) (g := g) (row := none) (kK HK))); replace HO_179004 := am (Kd.R_below (rB HO_179004) hb); replace BK178 := am (bB (kB BK178) hb); replace HK := am (KeepBut.trans (kK HK) (KeepBut.of_below hb g none) (.inl rfl)); replace HB := am (below_step (kLI HB) hb); replace HI0 := am (IsS83.below yI hb); (try clear ho0 hb)))
    go_ret
    exact ⟨_, yE, Kd.N_mono (nB HO187) (fun _ hk => hk.1), yI, (kLI HB), (kK HK)⟩
def parse_parser_atom.f (EXF : EX_F) (k : Nat) (s0_0 : List (S71)) (s0_1 : Int) (s0_2 : Int) (s0_3 : Bool) : Option ((List (S25)) × Int × Int × Bool) := (parse_parser_look.f s0_0 s0_1 s0_2 s0_3 0).bind fun bt202 => (if bt202.1 = 1 then ((parse_parser_literal.f k s0_0 bt202.2.2.2.1 bt202.2.2.2.2.1 bt202.2.2.2.2.2).bind fun bt209 => (some (bt209.1, bt209.2.1, bt209.2.2.1, bt209.2.2.2))) else (if bt202.1 = 2 then ((tree_Node.f k 2 (⟨#[]⟩ : ByteArray) (⟨#[]⟩ : ByteArray) bt202.2.1 ([] : List ByteArray) ([] : List (List (S25)))).bind fun t215 => (some (t215, wrap64 (bt202.2.2.2.1 + 1), bt202.2.2.2.2.1, bt202.2.2.2.2.2))) else ((parse_parser_mark.f s0_0 bt202.2.2.2.1 bt202.2.2.2.2.1 bt202.2.2.2.2.2 (⟨#[40]⟩ : ByteArray)).bind fun bt218 => (if bt218.2.2 = true then (some (([] : List (S25)), bt218.1, bt218.2.1, bt218.2.2)) else ((EXF s0_0 bt218.1 bt218.2.1 bt218.2.2).bind fun bt221 => ((parse_parser_mark.f s0_0 bt221.2.1 bt221.2.2.1 bt221.2.2.2 (⟨#[41]⟩ : ByteArray)).bind fun bt227 => (some (bt221.1, bt227.1, bt227.2.1, bt227.2.2))))))))
theorem parse_parser_atom.mono (EXF : EX_F) : ∀ a0 a1 a2 a3 k, LeO (parse_parser_atom.f EXF k a0 a1 a2 a3) (parse_parser_atom.f EXF (k + 1) a0 a1 a2 a3) := by
 intro a0 a1 a2 a3 k
 unfold parse_parser_atom.f
 repeat' first
   | (with_reducible exact parse_parser_literal.mono _ _ _ _ _)
   | (with_reducible exact tree_Node.mono _ _ _ _ _ _ _)
   | (with_reducible exact LeO.refl _)
   | (with_reducible exact LeO.none _)
   | (with_reducible refine LeO.ite ?_ ?_)
   | (with_reducible refine LeO.bind ?_ (fun _ => ?_))
   | exact parse_parser_literal.mono _ _ _ _ _
   | exact tree_Node.mono _ _ _ _ _ _ _
   | exact LeO.none _
   | refine LeO.ite ?_ ?_
   | refine LeO.bind ?_ (fun _ => ?_)
set_option maxHeartbeats 8000000 in
set_option maxRecDepth 100000 in
theorem parse_parser_atom.calls (EXF : EX_F) (EXC : EX_C EXF) (k : Nat) (g : Nat) (s0_0 : List (S71)) (s0_1 : Int) (s0_2 : Int) (s0_3 : Bool) (r1 : List (S25)) (r2 : Int) (r3 : Int) (r4 : Bool) (w0 w : World) (hI : IsS83 w0 w g s0_0 s0_1 s0_2 s0_3) (hB : Below w0.heap.size w0 w) (h : parse_parser_atom.f EXF k s0_0 s0_1 s0_2 s0_3 = some (r1, r2, r3, r4)) :
  Calls Try.prog 123 #[.pointer (some ⟨g, 0, none⟩)] w fun e w' => ∃ v0_ : Value, e = .returned (v0_) ∧ Kd.N k25 25 w' w.heap.size (fun k_ => (w.heap.size ≤ k_)) v0_ r1 ∧ IsS83 w0 w' g s0_0 r2 r3 r4 ∧ Below w0.heap.size w0 w' ∧ KeepBut w w' g none := by
 have hu71 := Try.underlying71
 have hu25 := Try.underlying25
 have HI0 := am hI
 have HK := am (KeepBut.refl w g none)
 have HL := am hB.size
 clear hI
 have HW0 := am hB.size
 have HB := am hB
 clear hB
 have H : ((parse_parser_look.f s0_0 s0_1 s0_2 s0_3 0).bind fun bt202 => (if bt202.1 = 1 then ((parse_parser_literal.f k s0_0 bt202.2.2.2.1 bt202.2.2.2.2.1 bt202.2.2.2.2.2).bind fun bt209 => (some (bt209.1, bt209.2.1, bt209.2.2.1, bt209.2.2.2))) else (if bt202.1 = 2 then ((tree_Node.f k 2 (⟨#[]⟩ : ByteArray) (⟨#[]⟩ : ByteArray) bt202.2.1 ([] : List ByteArray) ([] : List (List (S25)))).bind fun t215 => (some (t215, wrap64 (bt202.2.2.2.1 + 1), bt202.2.2.2.2.1, bt202.2.2.2.2.2))) else ((parse_parser_mark.f s0_0 bt202.2.2.2.1 bt202.2.2.2.2.1 bt202.2.2.2.2.2 (⟨#[40]⟩ : ByteArray)).bind fun bt218 => (if bt218.2.2 = true then (some (([] : List (S25)), bt218.1, bt218.2.1, bt218.2.2)) else ((EXF s0_0 bt218.1 bt218.2.1 bt218.2.2).bind fun bt221 => ((parse_parser_mark.f s0_0 bt221.2.1 bt221.2.2.1 bt221.2.2.2 (⟨#[41]⟩ : ByteArray)).bind fun bt227 => (some (bt221.1, bt227.1, bt227.2.1, bt227.2.2))))))))) = some (r1, r2, r3, r4) := h
 clear h
 replace H := Option.bind_eq_some_iff.mp H
 obtain ⟨⟨t202, t203, t204, t205, t206, t207⟩, A20, H⟩ := H
 try dsimp only at H
 have A2 := am A20
 clear A20
 by_cases c3 : t202 = 1
 ·rw [if_pos c3] at H
  have c3b0 := eT c3
  have c3b1 := nF c3
  clear c3
  replace H := Option.bind_eq_some_iff.mp H
  obtain ⟨⟨t209, t212, t213, t214⟩, A40, H⟩ := H
  try dsimp only at H
  have A4 := am A40
  clear A40
  simp only [Option.some.injEq, Prod.mk.injEq] at H
  obtain ⟨rfl, rfl, rfl, rfl⟩ := H
  go_enter Try.func123, Try.ntmps123
  go_wp2_with (first | ((with_reducible refine gC 67 rfl ?_); refine gL (some 6) Try.func67 #[.pointer (some ⟨g, 0, none⟩), .int .i64 0] ?_; (with_reducible refine (parse_parser_look.calls _ _ _ _ _ _ _ _ _ _ _ _ w0 _ ?side1 ?side2 A2.out).mono ?_); (case side1 => exact yI); (case side2 => exact (kLI HB)); rintro e w5 ⟨rfl, hi, hb, hk⟩; refine ⟨_, rfl, ?_⟩; replace HK := am (KeepBut.trans (kK HK) hk (.inl rfl)); replace HB := am hb; replace HI0 := am hi; (try clear hi hb hk)) | ((with_reducible refine gD 3 rfl ?_); refine bx 3 #[.int .i64 0, .string (⟨#[]⟩ : ByteArray), .int .i64 0] 71 ?_; intro gb208 hg w6 hbox hb; replace HB := am (below_step (kLI HB) hb); have BK208 := am hbox; have GW208 := am ((by rw [hg]; exact (keep_size (w := w) (g := g) (row := none) (kK HK)) : w.heap.size ≤ gb208)); have GE208 := am ((Nat.le_trans HW0.out (by rw [hg]; exact (keep_size (w := w) (g := g) (row := none) (kK HK)) : w.heap.size ≤ gb208) : w0.heap.size ≤ gb208)); replace HK := am (KeepBut.trans (kK HK) (KeepBut.of_below hb g none) (.inl rfl)); have NB0_208 := am ((by rw [hg]; exact Nat.ne_of_lt (IsS83.lt (show IsS83 w0 _ g s0_0 t205 t206 t207 from yI)) : g ≠ gb208)); have NB208_0 := am ((by rw [hg]; exact Nat.ne_of_gt (IsS83.lt (show IsS83 w0 _ g s0_0 t205 t206 t207 from yI)) : gb208 ≠ g)); replace HI0 := am (IsS83.below yI hb); clear hb hbox hg; have hnb7 := NB208_0.out; have hnc7 := NB0_208.out; obtain ⟨hcz8_0, hcz8_1, hcz8_2, hfz8_0, hfz8_1, hfz8_2⟩ := bk3 BK208.out) | ((with_reducible refine gC 130 rfl ?_); refine gL (some 12) Try.func130 #[.pointer (some ⟨g, 0, none⟩)] ?_; (with_reducible refine (parse_parser_literal.calls _ _ _ _ _ _ _ _ _ _ w0 _ ?side1 ?side2 A4.out).mono ?_); (case side1 => exact yI); (case side2 => exact (kLI HB)); rintro e w9 ⟨v210, rfl, ho0, hi, hb, hk⟩; refine ⟨_, rfl, ?_⟩; have HO211 := am (Kd.N_lower (Kd.N_mono (ok' := fun k_ => (w.heap.size ≤ k_) ∧ k_ ≠ gb208 ∧ k_ ≠ g) ho0 (fun k_ hk_ => ⟨(Nat.le_trans (keep_size (w := w) (g := g) (row := none) (kK HK)) hk_), (fB BK208 k_ hk_), (IsS83.fresh yI k_ hk_)⟩)) (keep_size (w := w) (g := g) (row := none) (kK HK))); replace BK208 := am (KeepBut.blk hk (g' := gb208) (o := .cells #[.int .i64 t202, .string t203, .int .i64 t204] 71 (0, 0)) (kM BK208) NB208_0.out (by simp)); replace HK := am (KeepBut.trans (kK HK) hk (.inl rfl)); replace HB := am hb; replace HI0 := am hi; (try clear ho0 hi hb hk)))
  go_ret
  exact ⟨_, yE, Kd.N_mono (nB HO211) (fun _ hk => hk.1), yI, (kLI HB), (kK HK)⟩
 ·rw [if_neg c3] at H
  have c3b0 := eF c3
  have c3b1 := nT c3
  by_cases c10 : t202 = 2
  ·rw [if_pos c10] at H
   have c10b0 := eT c10
   have c10b1 := nF c10
   clear c10
   replace H := Option.bind_eq_some_iff.mp H
   obtain ⟨t215, A110, H⟩ := H
   try dsimp only at H
   have A11 := am A110
   clear A110
   simp only [Option.some.injEq, Prod.mk.injEq] at H
   obtain ⟨rfl, rfl, rfl, rfl⟩ := H
   go_enter Try.func123, Try.ntmps123
   go_wp2_with (first | ((with_reducible refine gC 67 rfl ?_); refine gL (some 6) Try.func67 #[.pointer (some ⟨g, 0, none⟩), .int .i64 0] ?_; (with_reducible refine (parse_parser_look.calls _ _ _ _ _ _ _ _ _ _ _ _ w0 _ ?side1 ?side2 A2.out).mono ?_); (case side1 => exact yI); (case side2 => exact (kLI HB)); rintro e w12 ⟨rfl, hi, hb, hk⟩; refine ⟨_, rfl, ?_⟩; replace HK := am (KeepBut.trans (kK HK) hk (.inl rfl)); replace HB := am hb; replace HI0 := am hi; (try clear hi hb hk)) | ((with_reducible refine gD 3 rfl ?_); refine bx 3 #[.int .i64 0, .string (⟨#[]⟩ : ByteArray), .int .i64 0] 71 ?_; intro gb208 hg w13 hbox hb; replace HB := am (below_step (kLI HB) hb); have BK208 := am hbox; have GW208 := am ((by rw [hg]; exact (keep_size (w := w) (g := g) (row := none) (kK HK)) : w.heap.size ≤ gb208)); have GE208 := am ((Nat.le_trans HW0.out (by rw [hg]; exact (keep_size (w := w) (g := g) (row := none) (kK HK)) : w.heap.size ≤ gb208) : w0.heap.size ≤ gb208)); replace HK := am (KeepBut.trans (kK HK) (KeepBut.of_below hb g none) (.inl rfl)); have NB0_208 := am ((by rw [hg]; exact Nat.ne_of_lt (IsS83.lt (show IsS83 w0 _ g s0_0 t205 t206 t207 from yI)) : g ≠ gb208)); have NB208_0 := am ((by rw [hg]; exact Nat.ne_of_gt (IsS83.lt (show IsS83 w0 _ g s0_0 t205 t206 t207 from yI)) : gb208 ≠ g)); replace HI0 := am (IsS83.below yI hb); clear hb hbox hg; have hnb14 := NB208_0.out; have hnc14 := NB0_208.out; obtain ⟨hcz15_0, hcz15_1, hcz15_2, hfz15_0, hfz15_1, hfz15_2⟩ := bk3 BK208.out) | ((with_reducible refine gate_store (t := 71) (p := 3) rfl ?_); refine store_event (t := 71) (p := 3) (v := ?vo_w16) (w1 := (((w13.setCell ⟨gb208, 0, none⟩ (.int .i64 t202)).setCell ⟨gb208, 1, none⟩ (.string t203)).setCell ⟨gb208, 2, none⟩ (.int .i64 t204))) ?hg ?ho ?hn ?hr ?_; (case ho => rfl); (case hg => rfl); (case hn => rfl); (case hr => first | (go_simp; done) | (go_simp; rfl)); intro w16 hw; have n0_ : Aside0 (w16.heap[gb208]? = some (.cells #[.int .i64 t202, .string t203, .int .i64 t204] 71 (0, 0))) := ⟨(by rw [hw]; exact (kM BK208))⟩; have n1_ : Aside0 (IsS83 w0 w16 g s0_0 t205 t206 t207) := ⟨(by rw [hw]; exact yI)⟩; have n2_ : Aside0 (KeepBut w w16 g none) := ⟨(by rw [hw]; exact (kK HK))⟩; have n3_ : Aside0 (Below w0.heap.size w0 w16) := ⟨(by rw [hw]; exact (kLI HB))⟩; clear hw; clear BK208; clear HI0; clear HK; clear HB; have BK208 := n0_; have HI0 := n1_; have HK := n2_; have HB := n3_; clear n0_ n1_ n2_ n3_; obtain ⟨hcz17_0, hcz17_1, hcz17_2, hfz17_0, hfz17_1, hfz17_2⟩ := bk3 BK208.out; obtain ⟨ASz18_0, cSz18_0, HSz18_0, hcz18_0, hcz18_1, hcz18_2, hcz18_3, hfz18_1, hfz18_2, hfz18_3⟩ := IsS83.look HI0.out) | ((with_reducible refine gC 32 rfl ?_); refine gL (some 27) Try.func32 #[.agg #[.int .i64 2, .string (⟨#[]⟩ : ByteArray), .string (⟨#[]⟩ : ByteArray), .string t203, .slice none 0 0], .slice none 0 0] ?_; (refine (tree_Node.calls _ _ _ _ _ (fun k_ => False) _ _ _ (fun k_ => False) _ _ _ _ _ ?side1 ?side2 A11.out).mono ?_); (case side1 => exact Kd.V_nil _ _ _ _ _); (case side2 => exact Kd.V_nil _ _ _ _ _); rintro e w19 ⟨v216, rfl, ho0, hb⟩; refine ⟨_, rfl, ?_⟩; have HO217 := am (Kd.N_lower (Kd.N_mono (ok' := fun k_ => (w.heap.size ≤ k_) ∧ k_ ≠ gb208 ∧ k_ ≠ g) ho0 (fun k_ hk_ => ⟨Or.elim hk_ (fun hs_ => Or.elim hs_ (fun hs_ => (hs_).elim) (fun hs_ => (hs_).elim)) (fun hn_ => (Nat.le_trans (keep_size (w := w) (g := g) (row := none) (kK HK)) hn_)), Or.elim hk_ (fun hs_ => Or.elim hs_ (fun hs_ => (hs_).elim) (fun hs_ => (hs_).elim)) (fun hn_ => (Kd.freshB (g := gb208) (o := .cells #[.int .i64 t202, .string t203, .int .i64 t204] 71 (0, 0)) (kM BK208) k_ hn_)), Or.elim hk_ (fun hs_ => Or.elim hs_ (fun hs_ => (hs_).elim) (fun hs_ => (hs_).elim)) (fun hn_ => (IsS83.fresh yI k_ hn_))⟩)) (keep_size (w := w) (g := g) (row := none) (kK HK))); replace BK208 := am (bB (g := gb208) (o := .cells #[.int .i64 t202, .string t203, .int .i64 t204] 71 (0, 0)) (kM BK208) hb); replace HK := am (KeepBut.trans (kK HK) (KeepBut.of_below hb g none) (.inl rfl)); replace HB := am (below_step (kLI HB) hb); replace HI0 := am (IsS83.below (show IsS83 w0 (w16.setCell ⟨g, 1, none⟩ (.int .i64 (wrap64 (t205 + 1)))) g s0_0 (wrap64 (t205 + 1)) t206 t207 from yI) hb); (try clear ho0 hb)))
   go_ret
   exact ⟨_, yE, Kd.N_mono (nB HO217) (fun _ hk => hk.1), yI, (kLI HB), (kK HK)⟩
  ·rw [if_neg c10] at H
   have c10b0 := eF c10
   have c10b1 := nT c10
   replace H := Option.bind_eq_some_iff.mp H
   obtain ⟨⟨t218, t219, t220⟩, A200, H⟩ := H
   try dsimp only at H
   have A20 := am A200
   clear A200
   by_cases c21 : t220 = true
   ·subst c21
    rw [if_pos rfl] at H
    simp only [Option.some.injEq, Prod.mk.injEq] at H
    obtain ⟨rfl, rfl, rfl, rfl⟩ := H
    go_enter Try.func123, Try.ntmps123
    go_wp2_with (first | ((with_reducible refine gC 67 rfl ?_); refine gL (some 6) Try.func67 #[.pointer (some ⟨g, 0, none⟩), .int .i64 0] ?_; (with_reducible refine (parse_parser_look.calls _ _ _ _ _ _ _ _ _ _ _ _ w0 _ ?side1 ?side2 A2.out).mono ?_); (case side1 => exact yI); (case side2 => exact (kLI HB)); rintro e w22 ⟨rfl, hi, hb, hk⟩; refine ⟨_, rfl, ?_⟩; replace HK := am (KeepBut.trans (kK HK) hk (.inl rfl)); replace HB := am hb; replace HI0 := am hi; (try clear hi hb hk)) | ((with_reducible refine gD 3 rfl ?_); refine bx 3 #[.int .i64 0, .string (⟨#[]⟩ : ByteArray), .int .i64 0] 71 ?_; intro gb208 hg w23 hbox hb; replace HB := am (below_step (kLI HB) hb); have BK208 := am hbox; have GW208 := am ((by rw [hg]; exact (keep_size (w := w) (g := g) (row := none) (kK HK)) : w.heap.size ≤ gb208)); have GE208 := am ((Nat.le_trans HW0.out (by rw [hg]; exact (keep_size (w := w) (g := g) (row := none) (kK HK)) : w.heap.size ≤ gb208) : w0.heap.size ≤ gb208)); replace HK := am (KeepBut.trans (kK HK) (KeepBut.of_below hb g none) (.inl rfl)); have NB0_208 := am ((by rw [hg]; exact Nat.ne_of_lt (IsS83.lt (show IsS83 w0 _ g s0_0 t205 t206 t207 from yI)) : g ≠ gb208)); have NB208_0 := am ((by rw [hg]; exact Nat.ne_of_gt (IsS83.lt (show IsS83 w0 _ g s0_0 t205 t206 t207 from yI)) : gb208 ≠ g)); replace HI0 := am (IsS83.below yI hb); clear hb hbox hg; have hnb24 := NB208_0.out; have hnc24 := NB0_208.out; obtain ⟨hcz25_0, hcz25_1, hcz25_2, hfz25_0, hfz25_1, hfz25_2⟩ := bk3 BK208.out) | ((with_reducible refine gC 94 rfl ?_); refine gL (some 29) Try.func94 #[.pointer (some ⟨g, 0, none⟩), .string (⟨#[40]⟩ : ByteArray)] ?_; (with_reducible refine (parse_parser_mark.calls _ _ _ _ _ _ _ _ _ w0 _ ?side1 ?side2 A20.out).mono ?_); (case side1 => exact yI); (case side2 => exact (kLI HB)); rintro e w26 ⟨rfl, hi, hb, hk⟩; refine ⟨_, rfl, ?_⟩; replace BK208 := am (KeepBut.blk hk (g' := gb208) (o := .cells #[.int .i64 t202, .string t203, .int .i64 t204] 71 (0, 0)) (kM BK208) NB208_0.out (by simp)); replace HK := am (KeepBut.trans (kK HK) hk (.inl rfl)); replace HB := am hb; replace HI0 := am hi; (try clear hi hb hk); obtain ⟨ASz27_0, cSz27_0, HSz27_0, hcz27_0, hcz27_1, hcz27_2, hcz27_3, hfz27_1, hfz27_2, hfz27_3⟩ := IsS83.look HI0.out))
    go_ret
    exact ⟨_, yE, yZ, yI, (kLI HB), (kK HK)⟩
   ·replace c21 := Bool.eq_false_iff.mpr c21
    subst c21
    rw [if_neg (show ¬ (false = true) by decide)] at H
    replace H := Option.bind_eq_some_iff.mp H
    obtain ⟨⟨t221, t224, t225, t226⟩, A280, H⟩ := H
    try dsimp only at H
    have A28 := am A280
    clear A280
    replace H := Option.bind_eq_some_iff.mp H
    obtain ⟨⟨t227, t228, t229⟩, A290, H⟩ := H
    try dsimp only at H
    have A29 := am A290
    clear A290
    simp only [Option.some.injEq, Prod.mk.injEq] at H
    obtain ⟨rfl, rfl, rfl, rfl⟩ := H
    go_enter Try.func123, Try.ntmps123
    go_wp2_with (first | ((with_reducible refine gC 67 rfl ?_); refine gL (some 6) Try.func67 #[.pointer (some ⟨g, 0, none⟩), .int .i64 0] ?_; (with_reducible refine (parse_parser_look.calls _ _ _ _ _ _ _ _ _ _ _ _ w0 _ ?side1 ?side2 A2.out).mono ?_); (case side1 => exact yI); (case side2 => exact (kLI HB)); rintro e w30 ⟨rfl, hi, hb, hk⟩; refine ⟨_, rfl, ?_⟩; replace HK := am (KeepBut.trans (kK HK) hk (.inl rfl)); replace HB := am hb; replace HI0 := am hi; (try clear hi hb hk)) | ((with_reducible refine gD 3 rfl ?_); refine bx 3 #[.int .i64 0, .string (⟨#[]⟩ : ByteArray), .int .i64 0] 71 ?_; intro gb208 hg w31 hbox hb; replace HB := am (below_step (kLI HB) hb); have BK208 := am hbox; have GW208 := am ((by rw [hg]; exact (keep_size (w := w) (g := g) (row := none) (kK HK)) : w.heap.size ≤ gb208)); have GE208 := am ((Nat.le_trans HW0.out (by rw [hg]; exact (keep_size (w := w) (g := g) (row := none) (kK HK)) : w.heap.size ≤ gb208) : w0.heap.size ≤ gb208)); replace HK := am (KeepBut.trans (kK HK) (KeepBut.of_below hb g none) (.inl rfl)); have NB0_208 := am ((by rw [hg]; exact Nat.ne_of_lt (IsS83.lt (show IsS83 w0 _ g s0_0 t205 t206 t207 from yI)) : g ≠ gb208)); have NB208_0 := am ((by rw [hg]; exact Nat.ne_of_gt (IsS83.lt (show IsS83 w0 _ g s0_0 t205 t206 t207 from yI)) : gb208 ≠ g)); replace HI0 := am (IsS83.below yI hb); clear hb hbox hg; have hnb32 := NB208_0.out; have hnc32 := NB0_208.out; obtain ⟨hcz33_0, hcz33_1, hcz33_2, hfz33_0, hfz33_1, hfz33_2⟩ := bk3 BK208.out) | ((with_reducible refine gC 94 rfl ?_); refine gL (some 29) Try.func94 #[.pointer (some ⟨g, 0, none⟩), .string (⟨#[40]⟩ : ByteArray)] ?_; (with_reducible refine (parse_parser_mark.calls _ _ _ _ _ _ _ _ _ w0 _ ?side1 ?side2 A20.out).mono ?_); (case side1 => exact yI); (case side2 => exact (kLI HB)); rintro e w34 ⟨rfl, hi, hb, hk⟩; refine ⟨_, rfl, ?_⟩; replace BK208 := am (KeepBut.blk hk (g' := gb208) (o := .cells #[.int .i64 t202, .string t203, .int .i64 t204] 71 (0, 0)) (kM BK208) NB208_0.out (by simp)); replace HK := am (KeepBut.trans (kK HK) hk (.inl rfl)); replace HB := am hb; replace HI0 := am hi; (try clear hi hb hk); obtain ⟨ASz35_0, cSz35_0, HSz35_0, hcz35_0, hcz35_1, hcz35_2, hcz35_3, hfz35_1, hfz35_2, hfz35_3⟩ := IsS83.look HI0.out) | ((with_reducible refine gC 93 rfl ?_); refine gL (some 35) Try.func93 #[.pointer (some ⟨g, 0, none⟩)] ?_; (with_reducible refine (EXC.out _ _ _ _ _ _ _ _ _ w0 _ ?side1 ?side2 A28.out).mono ?_); (case side1 => exact yI); (case side2 => exact (kLI HB)); rintro e w36 ⟨v222, rfl, ho0, hi, hb, hk⟩; refine ⟨_, rfl, ?_⟩; have HO223 := am (Kd.N_lower (Kd.N_mono (ok' := fun k_ => (w.heap.size ≤ k_) ∧ k_ ≠ gb208 ∧ k_ ≠ g) ho0 (fun k_ hk_ => ⟨(Nat.le_trans (keep_size (w := w) (g := g) (row := none) (kK HK)) hk_), (fB BK208 k_ hk_), (IsS83.fresh yI k_ hk_)⟩)) (keep_size (w := w) (g := g) (row := none) (kK HK))); replace BK208 := am (KeepBut.blk hk (kB BK208) NB208_0.out (by simp)); replace HK := am (KeepBut.trans (kK HK) hk (.inl rfl)); replace HB := am hb; replace HI0 := am hi; (try clear ho0 hi hb hk)) | ((with_reducible refine gC 94 rfl ?_); refine gL (some 37) Try.func94 #[.pointer (some ⟨g, 0, none⟩), .string (⟨#[41]⟩ : ByteArray)] ?_; (with_reducible refine (parse_parser_mark.calls _ _ _ _ _ _ _ _ _ w0 _ ?side1 ?side2 A29.out).mono ?_); (case side1 => exact yI); (case side2 => exact (kLI HB)); rintro e w37 ⟨rfl, hi, hb, hk⟩; refine ⟨_, rfl, ?_⟩; replace BK208 := am (KeepBut.blk hk (kB BK208) NB208_0.out (by simp)); replace HO223 := am (Kd.N_mono (Kd.N_keep (Kd.N_mono (ok := fun k_ => (((w.heap.size ≤ k_)) ∧ (k_ ≠ gb208 ∧ k_ ≠ g))) (nB HO223) (fun k_ hk_ => (⟨hk_, hk_.2.2⟩ : _ ∧ k_ ≠ g))) hk (fun _ h => h.2)) (fun _ h => h.1)); replace HK := am (KeepBut.trans (kK HK) hk (.inl rfl)); replace HB := am hb; replace HI0 := am hi; (try clear hi hb hk)))
    go_ret
    exact ⟨_, yE, Kd.N_mono (nB HO223) (fun _ hk => hk.1), yI, (kLI HB), (kK HK)⟩
def parse_parser_term.l0 (EXF : EX_F) : Nat → List (S25) → List (S71) → Int → Int → Bool → Option ((List (S25)) × Int × Int × Bool)
 | 0, _, _, _, _, _ => none
 | k + 1, x3, x1000, x1001, x1002, x1003 => (parse_parser_is.f x1000 x1001 x1002 x1003 0 (⟨#[91]⟩ : ByteArray)).bind fun bt236 => (if bt236.1 = true then ((EXF x1000 (wrap64 (bt236.2.1 + 1)) bt236.2.2.1 bt236.2.2.2).bind fun bt240 => ((parse_parser_mark.f x1000 bt240.2.1 bt240.2.2.1 bt240.2.2.2 (⟨#[93]⟩ : ByteArray)).bind fun bt246 => ((tree_Node.f k 8 (⟨#[]⟩ : ByteArray) (⟨#[]⟩ : ByteArray) (⟨#[]⟩ : ByteArray) ([] : List ByteArray) (([x3, bt240.1] : List (List (S25))))).bind fun t252 => (parse_parser_term.l0 EXF k t252 x1000 bt246.1 bt246.2.1 bt246.2.2)))) else (some (x3, bt236.2.1, bt236.2.2.1, bt236.2.2.2)))
def parse_parser_term.f (EXF : EX_F) (k : Nat) (s0_0 : List (S71)) (s0_1 : Int) (s0_2 : Int) (s0_3 : Bool) : Option ((List (S25)) × Int × Int × Bool) := (parse_parser_atom.f EXF k s0_0 s0_1 s0_2 s0_3).bind fun bt230 => (parse_parser_term.l0 EXF k bt230.1 s0_0 bt230.2.1 bt230.2.2.1 bt230.2.2.2)
theorem parse_parser_term.mono_l (EXF : EX_F) : ∀ k, (∀ y0 y1 y2 y3 y4, LeO (parse_parser_term.l0 EXF k y0 y1 y2 y3 y4) (parse_parser_term.l0 EXF (k + 1) y0 y1 y2 y3 y4))
 | 0 => fun _ _ _ _ _ r h => by simp [parse_parser_term.l0] at h
 | k + 1 => by
  have ih0 := parse_parser_term.mono_l EXF k
  ·intro y0 y1 y2 y3 y4
   unfold parse_parser_term.l0
   repeat' first
   | (with_reducible exact ih0 _ _ _ _ _)
   | (with_reducible exact parse_parser_atom.mono EXF _ _ _ _ _)
   | (with_reducible exact tree_Node.mono _ _ _ _ _ _ _)
   | (with_reducible exact LeO.refl _)
   | (with_reducible exact LeO.none _)
   | (with_reducible refine LeO.ite ?_ ?_)
   | (with_reducible refine LeO.bind ?_ (fun _ => ?_))
   | exact ih0 _ _ _ _ _
   | exact parse_parser_atom.mono EXF _ _ _ _ _
   | exact tree_Node.mono _ _ _ _ _ _ _
   | exact LeO.none _
   | refine LeO.ite ?_ ?_
   | refine LeO.bind ?_ (fun _ => ?_)
theorem parse_parser_term.mono (EXF : EX_F) : ∀ a0 a1 a2 a3 k, LeO (parse_parser_term.f EXF k a0 a1 a2 a3) (parse_parser_term.f EXF (k + 1) a0 a1 a2 a3) := by
 intro a0 a1 a2 a3 k
 have ih0 := parse_parser_term.mono_l EXF k
 unfold parse_parser_term.f
 repeat' first
   | (with_reducible exact ih0 _ _ _ _ _)
   | (with_reducible exact parse_parser_atom.mono EXF _ _ _ _ _)
   | (with_reducible exact tree_Node.mono _ _ _ _ _ _ _)
   | (with_reducible exact LeO.refl _)
   | (with_reducible exact LeO.none _)
   | (with_reducible refine LeO.ite ?_ ?_)
   | (with_reducible refine LeO.bind ?_ (fun _ => ?_))
   | exact ih0 _ _ _ _ _
   | exact parse_parser_atom.mono EXF _ _ _ _ _
   | exact tree_Node.mono _ _ _ _ _ _ _
   | exact LeO.none _
   | refine LeO.ite ?_ ?_
   | refine LeO.bind ?_ (fun _ => ?_)
set_option maxHeartbeats 8000000 in
set_option maxRecDepth 100000 in
theorem parse_parser_term.calls (EXF : EX_F) (EXC : EX_C EXF) (k : Nat) (g : Nat) (s0_0 : List (S71)) (s0_1 : Int) (s0_2 : Int) (s0_3 : Bool) (r1 : List (S25)) (r2 : Int) (r3 : Int) (r4 : Bool) (w0 w : World) (hI : IsS83 w0 w g s0_0 s0_1 s0_2 s0_3) (hB : Below w0.heap.size w0 w) (h : parse_parser_term.f EXF k s0_0 s0_1 s0_2 s0_3 = some (r1, r2, r3, r4)) :
  Calls Try.prog 112 #[.pointer (some ⟨g, 0, none⟩)] w fun e w' => ∃ v0_ : Value, e = .returned (v0_) ∧ Kd.N k25 25 w' w.heap.size (fun k_ => (w.heap.size ≤ k_)) v0_ r1 ∧ IsS83 w0 w' g s0_0 r2 r3 r4 ∧ Below w0.heap.size w0 w' ∧ KeepBut w w' g none := by
 have hu25 := Try.underlying25
 have HI0 := am hI
 have HK := am (KeepBut.refl w g none)
 have HL := am hB.size
 clear hI
 have HW0 := am hB.size
 have HB := am hB
 clear hB
 have H : ((parse_parser_atom.f EXF k s0_0 s0_1 s0_2 s0_3).bind fun bt230 => (parse_parser_term.l0 EXF k bt230.1 s0_0 bt230.2.1 bt230.2.2.1 bt230.2.2.2)) = some (r1, r2, r3, r4) := h
 clear h
 replace H := Option.bind_eq_some_iff.mp H
 obtain ⟨⟨t230, t233, t234, t235⟩, A20, H⟩ := H
 try dsimp only at H
 have A2 := am A20
 clear A20
 have H' := am H
 clear H
 go_enter Try.func112, Try.ntmps112
 go_wp2_with ((with_reducible refine gC 123 rfl ?_); refine gL (some 6) Try.func123 #[.pointer (some ⟨g, 0, none⟩)] ?_; (with_reducible refine (parse_parser_atom.calls EXF EXC _ _ _ _ _ _ _ _ _ _ w0 _ ?side1 ?side2 A2.out).mono ?_); (case side1 => exact yI); (case side2 => exact (kLI HB)); rintro e w3 ⟨v231, rfl, ho0, hi, hb, hk⟩; refine ⟨_, rfl, ?_⟩; have HO232 := am (Kd.N_lower (Kd.N_mono (ok' := fun k_ => (w.heap.size ≤ k_) ∧ k_ ≠ g) ho0 (fun k_ hk_ => ⟨(Nat.le_trans (keep_size (w := w) (g := g) (row := none) (kK HK)) hk_), (IsS83.fresh yI k_ hk_)⟩)) (keep_size (w := w) (g := g) (row := none) (kK HK))); replace HK := am (KeepBut.trans (kK HK) hk (.inl rfl)); replace HB := am hb; replace HI0 := am hi; (try clear ho0 hi hb hk))
 go_loopg [3] k (fun kq v3 w' => ∃ (x3_1 : List (S25)) (x1001_1 : Int) (x1002_1 : Int) (x1003_1 : Bool), Aside0 (parse_parser_term.l0 EXF kq x3_1 s0_0 x1001_1 x1002_1 x1003_1 = some (r1, r2, r3, r4)) ∧ Aside0 (kq ≤ k) ∧ Aside0 (Kd.N k25 25 w' w.heap.size (fun k_ => (w.heap.size ≤ k_) ∧ k_ ≠ g) v3 x3_1) ∧ Aside0 (IsS83 w0 w' g s0_0 x1001_1 x1002_1 x1003_1) ∧ Aside0 (KeepBut w w' g none) ∧ Aside0 (Below w0.heap.size w0 w'))
 case atStart => exact ⟨(t230), (t233), (t234), (t235), H', ⟨Nat.le_refl _⟩, ⟨nB HO232⟩, ⟨yI⟩, ⟨(kK HK)⟩, ⟨(kLI HB)⟩⟩
 case round =>
  clear H'
  try clear c1
  try clear p2
  obtain ⟨x3_1, x1001_1, x1002_1, x1003_1, HA, HK1, HO_3, HI0, HK, HB⟩ := hrel
  cases gk with
  | zero => exact absurd HA.out (by simp [parse_parser_term.l0])
  | succ k1 =>
   have H := HA.out
   clear HA
   simp only [parse_parser_term.l0] at H
   replace H := Option.bind_eq_some_iff.mp H
   obtain ⟨⟨t236, t237, t238, t239⟩, A40, H⟩ := H
   try dsimp only at H
   have A4 := am A40
   clear A40
   by_cases c5 : t236 = true
   ·subst c5
    rw [if_pos rfl] at H
    replace H := Option.bind_eq_some_iff.mp H
    obtain ⟨⟨t240, t243, t244, t245⟩, A60, H⟩ := H
    try dsimp only at H
    have A6 := am A60
    clear A60
    replace H := Option.bind_eq_some_iff.mp H
    obtain ⟨⟨t246, t247, t248⟩, A70, H⟩ := H
    try dsimp only at H
    have A7 := am A70
    clear A70
    obtain ⟨y249, hy249⟩ : ∃ y_ : List (List (S25)), y_ = (([x3_1, t240] : List (List (S25)))) := ⟨_, rfl⟩
    replace H : ((tree_Node.f k1 8 (⟨#[]⟩ : ByteArray) (⟨#[]⟩ : ByteArray) (⟨#[]⟩ : ByteArray) ([] : List ByteArray) y249).bind fun t252 => (parse_parser_term.l0 EXF k1 t252 s0_0 t246 t247 t248)) = some (r1, r2, r3, r4) := by first | (rw [hy249]; with_reducible exact H) | (have H2_ := (Option.bind_some _ _).symm.trans H; rw [hy249]; with_reducible exact H2_) | (have H2_ := (Option.bind_some _ _).symm.trans H; with_reducible exact H2_) | with_reducible exact H | (rw [hy249]; exact H) | exact H
    have Ny249 := am hy249
    clear hy249
    replace H := Option.bind_eq_some_iff.mp H
    obtain ⟨t252, A80, H⟩ := H
    try dsimp only at H
    have A8 := am A80
    clear A80
    have H' := am H
    clear H
    go_wp2_with (first | ((with_reducible refine gC 92 rfl ?_); refine gL (some 8) Try.func92 #[.pointer (some ⟨g, 0, none⟩), .int .i64 0, .string (⟨#[91]⟩ : ByteArray)] ?_; (with_reducible refine (parse_parser_is.calls _ _ _ _ _ _ _ _ _ _ _ w0 _ ?side1 ?side2 A4.out).mono ?_); (case side1 => exact yI); (case side2 => exact (kLI HB)); rintro e w9 ⟨rfl, hi, hb, hk⟩; refine ⟨_, rfl, ?_⟩; replace HO_3 := am (Kd.N_mono (Kd.N_keep (Kd.N_mono (ok := fun k_ => (((w.heap.size ≤ k_)) ∧ k_ ≠ g)) (nB HO_3) (fun k_ hk_ => (⟨hk_, hk_.2⟩ : _ ∧ k_ ≠ g))) hk (fun _ h => h.2)) (fun _ h => h.1)); replace HK := am (KeepBut.trans (kK HK) hk (.inl rfl)); replace HB := am hb; replace HI0 := am hi; (try clear hi hb hk); obtain ⟨ASz10_0, cSz10_0, HSz10_0, hcz10_0, hcz10_1, hcz10_2, hcz10_3, hfz10_1, hfz10_2, hfz10_3⟩ := IsS83.look HI0.out) | ((with_reducible refine gC 93 rfl ?_); refine gL (some 17) Try.func93 #[.pointer (some ⟨g, 0, none⟩)] ?_; (with_reducible refine (EXC.out _ _ _ _ _ _ _ _ _ w0 _ ?side1 ?side2 A6.out).mono ?_); (case side1 => exact yI); (case side2 => exact (kLI HB)); rintro e w11 ⟨v241, rfl, ho0, hi, hb, hk⟩; refine ⟨_, rfl, ?_⟩; have HO242 := am (Kd.N_lower (Kd.N_mono (ok' := fun k_ => (w.heap.size ≤ k_) ∧ some k_ ≠ (u3 : Value).ownBlock ∧ k_ ≠ g) ho0 (fun k_ hk_ => ⟨(Nat.le_trans (keep_size (w := w) (g := g) (row := none) (kK HK)) hk_), (Kd.fresh' (Kd.N_lt (by (with_reducible repeat (first | apply Kd.N_alloc | apply Kd.N_drewN | apply Kd.N_drew)); exact (Kd.N_mono (Kd.N_far (p := ⟨g, 1, none⟩) (Kd.N_mono HO_3.out (fun k_ hk => (⟨hk, hk.2⟩ : _ ∧ k_ ≠ g))) (fun _ hk => hk.2) (.int .i64 (wrap64 (t237 + 1)))) (fun _ h_ => h_.1)))) k_ hk_), (IsS83.fresh yI k_ hk_)⟩)) (keep_size (w := w) (g := g) (row := none) (kK HK))); replace HO_3 := am (Kd.N_mono (Kd.N_told (Kd.N_oldK (Kd.N_mono (ok := fun k_ => (((w.heap.size ≤ k_)) ∧ k_ ≠ g)) (by (with_reducible repeat (first | apply Kd.N_alloc | apply Kd.N_drewN | apply Kd.N_drew)); exact (Kd.N_mono (Kd.N_far (p := ⟨g, 1, none⟩) (Kd.N_mono HO_3.out (fun k_ hk => (⟨hk, hk.2⟩ : _ ∧ k_ ≠ g))) (fun _ hk => hk.2) (.int .i64 (wrap64 (t237 + 1)))) (fun _ h_ => h_.1))) (fun k_ hk_ => (⟨hk_, hk_.2⟩ : _ ∧ k_ ≠ g))) hk) (Kd.N_base ho0)) (fun _ h_ => h_.1)); replace HK := am (KeepBut.trans (kK HK) hk (.inl rfl)); replace HB := am hb; replace HI0 := am hi; (try clear ho0 hi hb hk)) | ((with_reducible refine gC 94 rfl ?_); refine gL (some 19) Try.func94 #[.pointer (some ⟨g, 0, none⟩), .string (⟨#[93]⟩ : ByteArray)] ?_; (with_reducible refine (parse_parser_mark.calls _ _ _ _ _ _ _ _ _ w0 _ ?side1 ?side2 A7.out).mono ?_); (case side1 => exact yI); (case side2 => exact (kLI HB)); rintro e w12 ⟨rfl, hi, hb, hk⟩; refine ⟨_, rfl, ?_⟩; replace HO_3 := am (Kd.N_mono (Kd.N_keep (Kd.N_mono (ok := fun k_ => ((((w.heap.size ≤ k_)) ∧ k_ ≠ g) ∧ some k_ ≠ (v241 : Value).ownBlock)) (nB HO_3) (fun k_ hk_ => (⟨hk_, hk_.1.2⟩ : _ ∧ k_ ≠ g))) hk (fun _ h => h.2)) (fun _ h => h.1)); replace HO242 := am (Kd.N_mono (Kd.N_keep (Kd.N_mono (ok := fun k_ => (((w.heap.size ≤ k_)) ∧ (some k_ ≠ (u3 : Value).ownBlock ∧ k_ ≠ g))) (nB HO242) (fun k_ hk_ => (⟨hk_, hk_.2.2⟩ : _ ∧ k_ ≠ g))) hk (fun _ h => h.2)) (fun _ h => h.1)); replace HK := am (KeepBut.trans (kK HK) hk (.inl rfl)); replace HB := am hb; replace HI0 := am hi; (try clear hi hb hk); obtain ⟨Ao13, co13, eo13⟩ := Kd.N_slice HO_3.out; subst eo13; obtain ⟨Ao14, co14, eo14⟩ := Kd.N_slice HO242.out; subst eo14) | ((with_reducible refine gD 23 rfl ?_); refine Kd.N_lit (Kd.slice 25 k25) _ 22 ?hg (N' := 23) ?hd (xs := ([x3_1, t240] : List (List (S25)))) (inner := [.slice Ao13 x3_1.length co13, .slice Ao14 t240.length co14]) (ok := (fun k_ => (w.heap.size ≤ k_) ∧ k_ ≠ g)) (okp := (fun k_ => (w.heap.size ≤ k_) ∧ k_ ≠ g)) ?hr ?hp (fun _ hk => hk) ((show ∀ k_, w12.heap.size ≤ k_ → (fun k_ => (w.heap.size ≤ k_) ∧ k_ ≠ g) k_ from fun k_ hk => ⟨(Nat.le_trans (keep_size (w := w) (g := g) (row := none) (kK HK)) hk), IsS83.fresh yI k_ hk⟩) _ (Nat.le_refl _)) (Below.refl _ _) (Nat.le_refl _) (by simp) ?_; (case hd => rfl); (case hg => rfl); (case hr => first | (go_simp; done) | (go_simp; rfl)); (case hp => exact (Reps.one (show Kd.FK (Kd.slice 25 k25) _ _ x3_1 [.slice Ao13 x3_1.length co13] from (Kd.FK_slice_mk (Kd.N_reads' (Kd.N_mono (ok' := (fun k_ => (w.heap.size ≤ k_) ∧ k_ ≠ g)) (HO_3.out) (fun k_ hk => ⟨hk.1.1, hk.1.2⟩))).2.1 (Kd.N_F (Kd.N_mono (ok' := (fun k_ => (w.heap.size ≤ k_) ∧ k_ ≠ g)) (HO_3.out) (fun k_ hk => ⟨hk.1.1, hk.1.2⟩))))) (Reps.one (show Kd.FK (Kd.slice 25 k25) _ _ t240 [.slice Ao14 t240.length co14] from (Kd.FK_slice_mk (Kd.N_reads' (Kd.N_mono (ok' := (fun k_ => (w.heap.size ≤ k_) ∧ k_ ≠ g)) (HO242.out) (fun k_ hk => ⟨hk.1, hk.2.2⟩))).2.1 (Kd.N_F (Kd.N_mono (ok' := (fun k_ => (w.heap.size ≤ k_) ∧ k_ ≠ g)) (HO242.out) (fun k_ hk => ⟨hk.1, hk.2.2⟩))))) (Reps.none _ _)))); intro v250 w15 ho16 hb hg_ hnew_; clear hg_ hnew_; (first | rw [← Ny249.out] at ho16 | (simp only [Int.reduceToNat] at ho16; rw [← Ny249.out] at ho16)); have n0_ := am (Kd.N_lower ho16 (keep_size (w := w) (g := g) (row := none) (kK HK))); have n1_ := am (IsS83.below yI hb); have n2_ := am (KeepBut.trans (kK HK) (KeepBut.of_below hb g none) (.inl rfl)); have n3_ := am (below_step (kLI HB) hb); clear HI0; clear HK; clear HB; clear HO242; clear HO_3; have HO251 := n0_; have HI0 := n1_; have HK := n2_; have HB := n3_; clear n0_ n1_ n2_ n3_; clear hb ho16; obtain ⟨Ao17, co17, eo17⟩ := Kd.N_slice HO251.out; subst eo17) | ((with_reducible refine gC 32 rfl ?_); refine gL (some 24) Try.func32 #[.agg #[.int .i64 8, .string (⟨#[]⟩ : ByteArray), .string (⟨#[]⟩ : ByteArray), .string (⟨#[]⟩ : ByteArray), .slice none 0 0], .slice Ao17 y249.length co17] ?_; (refine (tree_Node.calls _ _ _ _ _ (fun k_ => False) _ _ _ (fun k_ => ((w.heap.size ≤ k_) ∧ k_ ≠ g)) _ _ _ _ _ ?side1 ?side2 A8.out).mono ?_); (case side1 => exact Kd.V_nil _ _ _ _ _); (case side2 => exact Kd.N_V (HO251.out)); rintro e w18 ⟨v253, rfl, ho0, hb⟩; refine ⟨_, rfl, ?_⟩; replace HO251 := am (Kd.N_elder' (nB HO251) (Kd.N_base ho0) hb); have HO254 := am (Kd.N_lower (Kd.N_mono (ok' := fun k_ => (w.heap.size ≤ k_) ∧ k_ ≠ g) ho0 (fun k_ hk_ => ⟨Or.elim hk_ (fun hs_ => Or.elim hs_ (fun hs_ => (hs_).elim) (fun hs_ => hs_.1)) (fun hn_ => (Nat.le_trans (keep_size (w := w) (g := g) (row := none) (kK HK)) hn_)), Or.elim hk_ (fun hs_ => Or.elim hs_ (fun hs_ => (hs_).elim) (fun hs_ => hs_.2)) (fun hn_ => (IsS83.fresh yI k_ hn_))⟩)) (keep_size (w := w) (g := g) (row := none) (kK HK))); replace HK := am (KeepBut.trans (kK HK) (KeepBut.of_below hb g none) (.inl rfl)); replace HB := am (below_step (kLI HB) hb); replace HI0 := am (IsS83.below yI hb); (try clear ho0 hb)))
    go_roundg k1
    case measure => have := HK1.out; omega
    case rel => exact ⟨(t252), (t246), (t247), (t248), H', ⟨by have := HK1.out; omega⟩, ⟨nB HO254⟩, ⟨yI⟩, ⟨(kK HK)⟩, ⟨(kLI HB)⟩⟩
   ·replace c5 := Bool.eq_false_iff.mpr c5
    subst c5
    rw [if_neg (show ¬ (false = true) by decide)] at H
    simp only [Option.some.injEq, Prod.mk.injEq] at H
    obtain ⟨rfl, rfl, rfl, rfl⟩ := H
    go_wp2_with ((with_reducible refine gC 92 rfl ?_); refine gL (some 8) Try.func92 #[.pointer (some ⟨g, 0, none⟩), .int .i64 0, .string (⟨#[91]⟩ : ByteArray)] ?_; (with_reducible refine (parse_parser_is.calls _ _ _ _ _ _ _ _ _ _ _ w0 _ ?side1 ?side2 A4.out).mono ?_); (case side1 => exact yI); (case side2 => exact (kLI HB)); rintro e w19 ⟨rfl, hi, hb, hk⟩; refine ⟨_, rfl, ?_⟩; replace HO_3 := am (Kd.N_mono (Kd.N_keep (Kd.N_mono (ok := fun k_ => (((w.heap.size ≤ k_)) ∧ k_ ≠ g)) (nB HO_3) (fun k_ hk_ => (⟨hk_, hk_.2⟩ : _ ∧ k_ ≠ g))) hk (fun _ h => h.2)) (fun _ h => h.1)); replace HK := am (KeepBut.trans (kK HK) hk (.inl rfl)); replace HB := am hb; replace HI0 := am hi; (try clear hi hb hk))
    go_ret
    exact ⟨_, yE, Kd.N_mono (nB HO_3) (fun _ hk => hk.1), yI, (kLI HB), (kK HK)⟩
end Go.Proofs.Ytdelccahgchadaa.P
end
