/- What the law TreeTells rests on, part 3. -/
import Derived.Test.YtdelccahgchadaaKTreeTells1
set_option linter.unusedVariables false
set_option linter.unusedSimpArgs false
section
namespace Go.Proofs.Ytdelccahgchadaa.P
open Go.RowKit Go.Proofs.YtdelccahgchadaaW.PrintWords Go.Proofs.YtdelccahgchadaaW.PrintLast Go.Proofs.YtdelccahgchadaaW.PrintMore
attribute [local go_sem] max2_int min2_int max_two min_two max_three min_three max_four min_four   
set_option linter.unusedVariables false
set_option linter.unusedSimpArgs false
def lex_first.f (k : Nat) (a0 : ByteArray) : Option (Int × Int) := if 0 < (a0.size : Int) then ((lex_small.f (bt a0 0)).bind fun t141 => (if t141 = true then ((run_word.f a0).bind fun t142 => (some (2, t142))) else ((lex_great.f (bt a0 0)).bind fun t143 => (if t143 = true then ((run_verb.f a0).bind fun t144 => (some (3, t144))) else ((strings_IndexByte.f (⟨#[43, 45, 42, 37, 33, 38, 124, 60, 62, 61, 126, 44, 35, 94, 36, 63, 64]⟩ : ByteArray) (bt a0 0)).bind fun t145 => (if t145 ≥ 0 then (some (4, 1)) else ((strings_IndexByte.f (⟨#[39, 47, 92, 46, 96]⟩ : ByteArray) (bt a0 0)).bind fun t146 => (if t146 ≥ 0 then (some (5, 1)) else ((strings_IndexByte.f (⟨#[40, 41, 91, 93, 123, 125, 58]⟩ : ByteArray) (bt a0 0)).bind fun t147 => (if t147 ≥ 0 then (some (6, 1)) else ((strings_TrimPrefix.f a0 (⟨#[95]⟩ : ByteArray)).bind fun t148 => ((run_figure.f t148).bind fun t149 => (if 0 ≤ (wrap64 ((wrap64 ((a0.size : Int) - (t148.size : Int))) + t149)) then (if (wrap64 ((wrap64 ((a0.size : Int) - (t148.size : Int))) + t149)) ≤ (a0.size : Int) then ((lex_Number.f k (a0.extract 0 ((wrap64 ((wrap64 ((a0.size : Int) - (t148.size : Int))) + t149)) : Int).toNat)).bind fun bt150 => (if bt150.2 = true then (some (1, wrap64 ((wrap64 ((a0.size : Int) - (t148.size : Int))) + t149))) else (some (0, 0)))) else (none)) else (none)))))))))))))) else (none)
theorem lex_first.mono : ∀ a0 k, LeO (lex_first.f k a0) (lex_first.f (k + 1) a0) := by
 intro a0 k
 unfold lex_first.f
 repeat' first
   | (with_reducible exact lex_Number.mono _ _)
   | (with_reducible exact LeO.refl _)
   | (with_reducible exact LeO.none _)
   | (with_reducible refine LeO.ite ?_ ?_)
   | (with_reducible refine LeO.bind ?_ (fun _ => ?_))
   | exact lex_Number.mono _ _
   | exact LeO.none _
   | refine LeO.ite ?_ ?_
   | refine LeO.bind ?_ (fun _ => ?_)
set_option maxHeartbeats 8000000 in
set_option maxRecDepth 100000 in
theorem lex_first.calls (k : Nat) (a0 : ByteArray) (r1 : Int) (r2 : Int) (w : World) (h : lex_first.f k a0 = some (r1, r2)) :
  Calls Try.prog 65 #[.string a0] w fun e w' => e = .returned (.tuple #[.int .i64 r1, .int .i64 r2]) ∧ Below w.heap.size w w' := by
 have HB := am (Below.refl w.heap.size w)
 have H : (if 0 < (a0.size : Int) then ((lex_small.f (bt a0 0)).bind fun t141 => (if t141 = true then ((run_word.f a0).bind fun t142 => (some (2, t142))) else ((lex_great.f (bt a0 0)).bind fun t143 => (if t143 = true then ((run_verb.f a0).bind fun t144 => (some (3, t144))) else ((strings_IndexByte.f (⟨#[43, 45, 42, 37, 33, 38, 124, 60, 62, 61, 126, 44, 35, 94, 36, 63, 64]⟩ : ByteArray) (bt a0 0)).bind fun t145 => (if t145 ≥ 0 then (some (4, 1)) else ((strings_IndexByte.f (⟨#[39, 47, 92, 46, 96]⟩ : ByteArray) (bt a0 0)).bind fun t146 => (if t146 ≥ 0 then (some (5, 1)) else ((strings_IndexByte.f (⟨#[40, 41, 91, 93, 123, 125, 58]⟩ : ByteArray) (bt a0 0)).bind fun t147 => (if t147 ≥ 0 then (some (6, 1)) else ((strings_TrimPrefix.f a0 (⟨#[95]⟩ : ByteArray)).bind fun t148 => ((run_figure.f t148).bind fun t149 => (if 0 ≤ (wrap64 ((wrap64 ((a0.size : Int) - (t148.size : Int))) + t149)) then (if (wrap64 ((wrap64 ((a0.size : Int) - (t148.size : Int))) + t149)) ≤ (a0.size : Int) then ((lex_Number.f k (a0.extract 0 ((wrap64 ((wrap64 ((a0.size : Int) - (t148.size : Int))) + t149)) : Int).toNat)).bind fun bt150 => (if bt150.2 = true then (some (1, wrap64 ((wrap64 ((a0.size : Int) - (t148.size : Int))) + t149))) else (some (0, 0)))) else (none)) else (none)))))))))))))) else (none)) = some (r1, r2) := h
 clear h
 by_cases c2 : 0 < (a0.size : Int)
 ·rw [if_pos c2] at H
  have c2b0 : decide (0 < (a0.size : Int)) = true := decide_eq_true c2
  have c2b1 : decide (0 < a0.size) = true := decide_eq_true (by omega)
  clear c2
  replace H := Option.bind_eq_some_iff.mp H
  obtain ⟨t141, A40, H⟩ := H
  replace H : (if t141 = true then ((run_word.f a0).bind fun t142 => (some (2, t142))) else ((lex_great.f (bt a0 0)).bind fun t143 => (if t143 = true then ((run_verb.f a0).bind fun t144 => (some (3, t144))) else ((strings_IndexByte.f (⟨#[43, 45, 42, 37, 33, 38, 124, 60, 62, 61, 126, 44, 35, 94, 36, 63, 64]⟩ : ByteArray) (bt a0 0)).bind fun t145 => (if t145 ≥ 0 then (some (4, 1)) else ((strings_IndexByte.f (⟨#[39, 47, 92, 46, 96]⟩ : ByteArray) (bt a0 0)).bind fun t146 => (if t146 ≥ 0 then (some (5, 1)) else ((strings_IndexByte.f (⟨#[40, 41, 91, 93, 123, 125, 58]⟩ : ByteArray) (bt a0 0)).bind fun t147 => (if t147 ≥ 0 then (some (6, 1)) else ((strings_TrimPrefix.f a0 (⟨#[95]⟩ : ByteArray)).bind fun t148 => ((run_figure.f t148).bind fun t149 => (if 0 ≤ (wrap64 ((wrap64 ((a0.size : Int) - (t148.size : Int))) + t149)) then (if (wrap64 ((wrap64 ((a0.size : Int) - (t148.size : Int))) + t149)) ≤ (a0.size : Int) then ((lex_Number.f k (a0.extract 0 ((wrap64 ((wrap64 ((a0.size : Int) - (t148.size : Int))) + t149)) : Int).toNat)).bind fun bt150 => (if bt150.2 = true then (some (1, wrap64 ((wrap64 ((a0.size : Int) - (t148.size : Int))) + t149))) else (some (0, 0)))) else (none)) else (none))))))))))))) = some (r1, r2) := H
  have A4 := am A40
  clear A40
  by_cases c5 : t141 = true
  ·subst c5
   have H1 : ((run_word.f a0).bind fun t142 => (some (2, t142))) = some (r1, r2) := by rw [if_pos rfl] at H; exact H
   clear H
   have H := H1
   clear H1
   replace H := Option.bind_eq_some_iff.mp H
   obtain ⟨t142, A60, H⟩ := H
   replace H : (some (2, t142)) = some (r1, r2) := H
   have A6 := am A60
   clear A60
   simp only [Option.some.injEq, Prod.mk.injEq] at H
   obtain ⟨rfl, rfl⟩ := H
   have p3 : 0 ≤ (0 : Int) := (by omega)
   have q3 : 0 < a0.size := (by have : (0 : Int) < (a0.size : Int) := of_decide_eq_true (by first | (with_reducible assumption) | assumption); omega)
   have hx3 : ∀ h : 0 < a0.size, ((a0[0]'h).toNat : Int) = bt a0 0 := bt_at a0 0
   clear p3
   have qi3 : (0 < (a0.size : Int)) = True := eq_true (of_decide_eq_true (by first | (with_reducible assumption) | assumption))
   replace q3 := eq_true q3
   go_enter Try.func65, Try.ntmps65
   go_wp2_with (first | ((with_reducible refine gate_callee (f := 84) rfl ?_); refine goesL_ (some 13) rfl rfl Try.func84 (by kernel_rfl) rfl #[.int .u8 (bt a0 0)] rfl (by (try simp only [List.map_toArray, List.map_cons, List.map_nil]); first | done | rfl | (simp only [List.length_drop, List.length_take]; rfl)) ?_; (with_reducible refine (lex_small.calls (bt a0 0) true _ A4.out).mono ?_); rintro e w' ⟨rfl, ⟨nd, rfl⟩⟩; refine ⟨_, rfl, ?_⟩) | ((with_reducible refine gate_callee (f := 85) rfl ?_); refine goesL_ (some 15) rfl rfl Try.func85 (by kernel_rfl) rfl #[.string a0, .func (.func 86) #[] #[]] rfl (by (try simp only [List.map_toArray, List.map_cons, List.map_nil]); first | done | rfl | (simp only [List.length_drop, List.length_take]; rfl)) ?_; (with_reducible refine (run_word.calls a0  t142 _ A6.out).mono ?_); rintro e w' ⟨rfl, ⟨nd, rfl⟩⟩; refine ⟨_, rfl, ?_⟩))
   go_ret2
   exact ⟨by first | rfl | (simp [errW_none, errW_some] <;> rfl) | (simp [*, errW_none, errW_some] <;> rfl), by repeat (first | (with_reducible first | exact HB.out | apply lA | apply lN | apply lD) | exact HB.out)⟩
  ·replace c5 := Bool.eq_false_iff.mpr c5
   subst c5
   have H1 : ((lex_great.f (bt a0 0)).bind fun t143 => (if t143 = true then ((run_verb.f a0).bind fun t144 => (some (3, t144))) else ((strings_IndexByte.f (⟨#[43, 45, 42, 37, 33, 38, 124, 60, 62, 61, 126, 44, 35, 94, 36, 63, 64]⟩ : ByteArray) (bt a0 0)).bind fun t145 => (if t145 ≥ 0 then (some (4, 1)) else ((strings_IndexByte.f (⟨#[39, 47, 92, 46, 96]⟩ : ByteArray) (bt a0 0)).bind fun t146 => (if t146 ≥ 0 then (some (5, 1)) else ((strings_IndexByte.f (⟨#[40, 41, 91, 93, 123, 125, 58]⟩ : ByteArray) (bt a0 0)).bind fun t147 => (if t147 ≥ 0 then (some (6, 1)) else ((strings_TrimPrefix.f a0 (⟨#[95]⟩ : ByteArray)).bind fun t148 => ((run_figure.f t148).bind fun t149 => (if 0 ≤ (wrap64 ((wrap64 ((a0.size : Int) - (t148.size : Int))) + t149)) then (if (wrap64 ((wrap64 ((a0.size : Int) - (t148.size : Int))) + t149)) ≤ (a0.size : Int) then ((lex_Number.f k (a0.extract 0 ((wrap64 ((wrap64 ((a0.size : Int) - (t148.size : Int))) + t149)) : Int).toNat)).bind fun bt150 => (if bt150.2 = true then (some (1, wrap64 ((wrap64 ((a0.size : Int) - (t148.size : Int))) + t149))) else (some (0, 0)))) else (none)) else (none)))))))))))) = some (r1, r2) := by rw [if_neg (show ¬ (false = true) by decide)] at H; exact H
   clear H
   have H := H1
   clear H1
   replace H := Option.bind_eq_some_iff.mp H
   obtain ⟨t143, A70, H⟩ := H
   replace H : (if t143 = true then ((run_verb.f a0).bind fun t144 => (some (3, t144))) else ((strings_IndexByte.f (⟨#[43, 45, 42, 37, 33, 38, 124, 60, 62, 61, 126, 44, 35, 94, 36, 63, 64]⟩ : ByteArray) (bt a0 0)).bind fun t145 => (if t145 ≥ 0 then (some (4, 1)) else ((strings_IndexByte.f (⟨#[39, 47, 92, 46, 96]⟩ : ByteArray) (bt a0 0)).bind fun t146 => (if t146 ≥ 0 then (some (5, 1)) else ((strings_IndexByte.f (⟨#[40, 41, 91, 93, 123, 125, 58]⟩ : ByteArray) (bt a0 0)).bind fun t147 => (if t147 ≥ 0 then (some (6, 1)) else ((strings_TrimPrefix.f a0 (⟨#[95]⟩ : ByteArray)).bind fun t148 => ((run_figure.f t148).bind fun t149 => (if 0 ≤ (wrap64 ((wrap64 ((a0.size : Int) - (t148.size : Int))) + t149)) then (if (wrap64 ((wrap64 ((a0.size : Int) - (t148.size : Int))) + t149)) ≤ (a0.size : Int) then ((lex_Number.f k (a0.extract 0 ((wrap64 ((wrap64 ((a0.size : Int) - (t148.size : Int))) + t149)) : Int).toNat)).bind fun bt150 => (if bt150.2 = true then (some (1, wrap64 ((wrap64 ((a0.size : Int) - (t148.size : Int))) + t149))) else (some (0, 0)))) else (none)) else (none))))))))))) = some (r1, r2) := H
   have A7 := am A70
   clear A70
   by_cases c8 : t143 = true
   ·subst c8
    have H1 : ((run_verb.f a0).bind fun t144 => (some (3, t144))) = some (r1, r2) := by rw [if_pos rfl] at H; exact H
    clear H
    have H := H1
    clear H1
    replace H := Option.bind_eq_some_iff.mp H
    obtain ⟨t144, A90, H⟩ := H
    replace H : (some (3, t144)) = some (r1, r2) := H
    have A9 := am A90
    clear A90
    simp only [Option.some.injEq, Prod.mk.injEq] at H
    obtain ⟨rfl, rfl⟩ := H
    have p3 : 0 ≤ (0 : Int) := (by omega)
    have q3 : 0 < a0.size := (by have : (0 : Int) < (a0.size : Int) := of_decide_eq_true (by first | (with_reducible assumption) | assumption); omega)
    have hx3 : ∀ h : 0 < a0.size, ((a0[0]'h).toNat : Int) = bt a0 0 := bt_at a0 0
    clear p3
    have qi3 : (0 < (a0.size : Int)) = True := eq_true (of_decide_eq_true (by first | (with_reducible assumption) | assumption))
    replace q3 := eq_true q3
    go_enter Try.func65, Try.ntmps65
    go_wp2_with (first | ((with_reducible refine gate_callee (f := 84) rfl ?_); refine goesL_ (some 13) rfl rfl Try.func84 (by kernel_rfl) rfl #[.int .u8 (bt a0 0)] rfl (by (try simp only [List.map_toArray, List.map_cons, List.map_nil]); first | done | rfl | (simp only [List.length_drop, List.length_take]; rfl)) ?_; (with_reducible refine (lex_small.calls (bt a0 0) false _ A4.out).mono ?_); rintro e w' ⟨rfl, ⟨nd, rfl⟩⟩; refine ⟨_, rfl, ?_⟩) | ((with_reducible refine gate_callee (f := 88) rfl ?_); refine goesL_ (some 18) rfl rfl Try.func88 (by kernel_rfl) rfl #[.int .u8 (bt a0 0)] rfl (by (try simp only [List.map_toArray, List.map_cons, List.map_nil]); first | done | rfl | (simp only [List.length_drop, List.length_take]; rfl)) ?_; (with_reducible refine (lex_great.calls (bt a0 0) true _ A7.out).mono ?_); rintro e w' ⟨rfl, ⟨nd, rfl⟩⟩; refine ⟨_, rfl, ?_⟩) | ((with_reducible refine gate_callee (f := 85) rfl ?_); refine goesL_ (some 20) rfl rfl Try.func85 (by kernel_rfl) rfl #[.string a0, .func (.func 89) #[] #[]] rfl (by (try simp only [List.map_toArray, List.map_cons, List.map_nil]); first | done | rfl | (simp only [List.length_drop, List.length_take]; rfl)) ?_; (with_reducible refine (run_verb.calls a0  t144 _ A9.out).mono ?_); rintro e w' ⟨rfl, ⟨nd, rfl⟩⟩; refine ⟨_, rfl, ?_⟩))
    go_ret2
    exact ⟨by first | rfl | (simp [errW_none, errW_some] <;> rfl) | (simp [*, errW_none, errW_some] <;> rfl), by repeat (first | (with_reducible first | exact HB.out | apply lA | apply lN | apply lD) | exact HB.out)⟩
   ·replace c8 := Bool.eq_false_iff.mpr c8
    subst c8
    have H1 : ((strings_IndexByte.f (⟨#[43, 45, 42, 37, 33, 38, 124, 60, 62, 61, 126, 44, 35, 94, 36, 63, 64]⟩ : ByteArray) (bt a0 0)).bind fun t145 => (if t145 ≥ 0 then (some (4, 1)) else ((strings_IndexByte.f (⟨#[39, 47, 92, 46, 96]⟩ : ByteArray) (bt a0 0)).bind fun t146 => (if t146 ≥ 0 then (some (5, 1)) else ((strings_IndexByte.f (⟨#[40, 41, 91, 93, 123, 125, 58]⟩ : ByteArray) (bt a0 0)).bind fun t147 => (if t147 ≥ 0 then (some (6, 1)) else ((strings_TrimPrefix.f a0 (⟨#[95]⟩ : ByteArray)).bind fun t148 => ((run_figure.f t148).bind fun t149 => (if 0 ≤ (wrap64 ((wrap64 ((a0.size : Int) - (t148.size : Int))) + t149)) then (if (wrap64 ((wrap64 ((a0.size : Int) - (t148.size : Int))) + t149)) ≤ (a0.size : Int) then ((lex_Number.f k (a0.extract 0 ((wrap64 ((wrap64 ((a0.size : Int) - (t148.size : Int))) + t149)) : Int).toNat)).bind fun bt150 => (if bt150.2 = true then (some (1, wrap64 ((wrap64 ((a0.size : Int) - (t148.size : Int))) + t149))) else (some (0, 0)))) else (none)) else (none)))))))))) = some (r1, r2) := by rw [if_neg (show ¬ (false = true) by decide)] at H; exact H
    clear H
    have H := H1
    clear H1
    replace H := Option.bind_eq_some_iff.mp H
    obtain ⟨t145, A100, H⟩ := H
    replace H : (if t145 ≥ 0 then (some (4, 1)) else ((strings_IndexByte.f (⟨#[39, 47, 92, 46, 96]⟩ : ByteArray) (bt a0 0)).bind fun t146 => (if t146 ≥ 0 then (some (5, 1)) else ((strings_IndexByte.f (⟨#[40, 41, 91, 93, 123, 125, 58]⟩ : ByteArray) (bt a0 0)).bind fun t147 => (if t147 ≥ 0 then (some (6, 1)) else ((strings_TrimPrefix.f a0 (⟨#[95]⟩ : ByteArray)).bind fun t148 => ((run_figure.f t148).bind fun t149 => (if 0 ≤ (wrap64 ((wrap64 ((a0.size : Int) - (t148.size : Int))) + t149)) then (if (wrap64 ((wrap64 ((a0.size : Int) - (t148.size : Int))) + t149)) ≤ (a0.size : Int) then ((lex_Number.f k (a0.extract 0 ((wrap64 ((wrap64 ((a0.size : Int) - (t148.size : Int))) + t149)) : Int).toNat)).bind fun bt150 => (if bt150.2 = true then (some (1, wrap64 ((wrap64 ((a0.size : Int) - (t148.size : Int))) + t149))) else (some (0, 0)))) else (none)) else (none))))))))) = some (r1, r2) := H
    have A10 := am A100
    clear A100
    by_cases c11 : t145 ≥ 0
    ·rw [if_pos c11] at H
     have c11b0 : decide (0 ≤ t145) = true := decide_eq_true c11
     clear c11
     simp only [Option.some.injEq, Prod.mk.injEq] at H
     obtain ⟨rfl, rfl⟩ := H
     have p3 : 0 ≤ (0 : Int) := (by omega)
     have q3 : 0 < a0.size := (by have : (0 : Int) < (a0.size : Int) := of_decide_eq_true (by first | (with_reducible assumption) | assumption); omega)
     have hx3 : ∀ h : 0 < a0.size, ((a0[0]'h).toNat : Int) = bt a0 0 := bt_at a0 0
     clear p3
     have qi3 : (0 < (a0.size : Int)) = True := eq_true (of_decide_eq_true (by first | (with_reducible assumption) | assumption))
     replace q3 := eq_true q3
     go_enter Try.func65, Try.ntmps65
     go_wp2_with (first | ((with_reducible refine gate_callee (f := 84) rfl ?_); refine goesL_ (some 13) rfl rfl Try.func84 (by kernel_rfl) rfl #[.int .u8 (bt a0 0)] rfl (by (try simp only [List.map_toArray, List.map_cons, List.map_nil]); first | done | rfl | (simp only [List.length_drop, List.length_take]; rfl)) ?_; (with_reducible refine (lex_small.calls (bt a0 0) false _ A4.out).mono ?_); rintro e w' ⟨rfl, ⟨nd, rfl⟩⟩; refine ⟨_, rfl, ?_⟩) | ((with_reducible refine gate_callee (f := 88) rfl ?_); refine goesL_ (some 18) rfl rfl Try.func88 (by kernel_rfl) rfl #[.int .u8 (bt a0 0)] rfl (by (try simp only [List.map_toArray, List.map_cons, List.map_nil]); first | done | rfl | (simp only [List.length_drop, List.length_take]; rfl)) ?_; (with_reducible refine (lex_great.calls (bt a0 0) false _ A7.out).mono ?_); rintro e w' ⟨rfl, ⟨nd, rfl⟩⟩; refine ⟨_, rfl, ?_⟩) | ((with_reducible refine gate_callee (f := 90) rfl ?_); refine goesL_ (some 23) rfl rfl Try.func90 (by kernel_rfl) rfl #[.string (⟨#[43, 45, 42, 37, 33, 38, 124, 60, 62, 61, 126, 44, 35, 94, 36, 63, 64]⟩ : ByteArray), .int .u8 (bt a0 0)] rfl (by (try simp only [List.map_toArray, List.map_cons, List.map_nil]); first | done | rfl | (simp only [List.length_drop, List.length_take]; rfl)) ?_; (with_reducible refine (strings_IndexByte.calls (⟨#[43, 45, 42, 37, 33, 38, 124, 60, 62, 61, 126, 44, 35, 94, 36, 63, 64]⟩ : ByteArray) (bt a0 0) t145 _ A10.out).mono ?_); rintro e w' ⟨rfl, ⟨nd, rfl⟩⟩; refine ⟨_, rfl, ?_⟩))
     go_ret2
     exact ⟨by first | rfl | (simp [errW_none, errW_some] <;> rfl) | (simp [*, errW_none, errW_some] <;> rfl), by repeat (first | (with_reducible first | exact HB.out | apply lA | apply lN | apply lD) | exact HB.out)⟩
    ·rw [if_neg c11] at H
     have c11b0 : decide (0 ≤ t145) = false := decide_eq_false c11
     clear c11
     replace H := Option.bind_eq_some_iff.mp H
     obtain ⟨t146, A120, H⟩ := H
     replace H : (if t146 ≥ 0 then (some (5, 1)) else ((strings_IndexByte.f (⟨#[40, 41, 91, 93, 123, 125, 58]⟩ : ByteArray) (bt a0 0)).bind fun t147 => (if t147 ≥ 0 then (some (6, 1)) else ((strings_TrimPrefix.f a0 (⟨#[95]⟩ : ByteArray)).bind fun t148 => ((run_figure.f t148).bind fun t149 => (if 0 ≤ (wrap64 ((wrap64 ((a0.size : Int) - (t148.size : Int))) + t149)) then (if (wrap64 ((wrap64 ((a0.size : Int) - (t148.size : Int))) + t149)) ≤ (a0.size : Int) then ((lex_Number.f k (a0.extract 0 ((wrap64 ((wrap64 ((a0.size : Int) - (t148.size : Int))) + t149)) : Int).toNat)).bind fun bt150 => (if bt150.2 = true then (some (1, wrap64 ((wrap64 ((a0.size : Int) - (t148.size : Int))) + t149))) else (some (0, 0)))) else (none)) else (none))))))) = some (r1, r2) := H
     have A12 := am A120
     clear A120
     by_cases c13 : t146 ≥ 0
     ·rw [if_pos c13] at H
      have c13b0 : decide (0 ≤ t146) = true := decide_eq_true c13
      clear c13
      simp only [Option.some.injEq, Prod.mk.injEq] at H
      obtain ⟨rfl, rfl⟩ := H
      have p3 : 0 ≤ (0 : Int) := (by omega)
      have q3 : 0 < a0.size := (by have : (0 : Int) < (a0.size : Int) := of_decide_eq_true (by first | (with_reducible assumption) | assumption); omega)
      have hx3 : ∀ h : 0 < a0.size, ((a0[0]'h).toNat : Int) = bt a0 0 := bt_at a0 0
      clear p3
      have qi3 : (0 < (a0.size : Int)) = True := eq_true (of_decide_eq_true (by first | (with_reducible assumption) | assumption))
      replace q3 := eq_true q3
      go_enter Try.func65, Try.ntmps65
      go_wp2_with (first | ((with_reducible refine gate_callee (f := 84) rfl ?_); refine goesL_ (some 13) rfl rfl Try.func84 (by kernel_rfl) rfl #[.int .u8 (bt a0 0)] rfl (by (try simp only [List.map_toArray, List.map_cons, List.map_nil]); first | done | rfl | (simp only [List.length_drop, List.length_take]; rfl)) ?_; (with_reducible refine (lex_small.calls (bt a0 0) false _ A4.out).mono ?_); rintro e w' ⟨rfl, ⟨nd, rfl⟩⟩; refine ⟨_, rfl, ?_⟩) | ((with_reducible refine gate_callee (f := 88) rfl ?_); refine goesL_ (some 18) rfl rfl Try.func88 (by kernel_rfl) rfl #[.int .u8 (bt a0 0)] rfl (by (try simp only [List.map_toArray, List.map_cons, List.map_nil]); first | done | rfl | (simp only [List.length_drop, List.length_take]; rfl)) ?_; (with_reducible refine (lex_great.calls (bt a0 0) false _ A7.out).mono ?_); rintro e w' ⟨rfl, ⟨nd, rfl⟩⟩; refine ⟨_, rfl, ?_⟩) | ((with_reducible refine gate_callee (f := 90) rfl ?_); refine goesL_ (some 23) rfl rfl Try.func90 (by kernel_rfl) rfl #[.string (⟨#[43, 45, 42, 37, 33, 38, 124, 60, 62, 61, 126, 44, 35, 94, 36, 63, 64]⟩ : ByteArray), .int .u8 (bt a0 0)] rfl (by (try simp only [List.map_toArray, List.map_cons, List.map_nil]); first | done | rfl | (simp only [List.length_drop, List.length_take]; rfl)) ?_; (with_reducible refine (strings_IndexByte.calls (⟨#[43, 45, 42, 37, 33, 38, 124, 60, 62, 61, 126, 44, 35, 94, 36, 63, 64]⟩ : ByteArray) (bt a0 0) t145 _ A10.out).mono ?_); rintro e w' ⟨rfl, ⟨nd, rfl⟩⟩; refine ⟨_, rfl, ?_⟩) | ((with_reducible refine gate_callee (f := 90) rfl ?_); refine goesL_ (some 27) rfl rfl Try.func90 (by kernel_rfl) rfl #[.string (⟨#[39, 47, 92, 46, 96]⟩ : ByteArray), .int .u8 (bt a0 0)] rfl (by (try simp only [List.map_toArray, List.map_cons, List.map_nil]); first | done | rfl | (simp only [List.length_drop, List.length_take]; rfl)) ?_; (with_reducible refine (strings_IndexByte.calls (⟨#[39, 47, 92, 46, 96]⟩ : ByteArray) (bt a0 0) t146 _ A12.out).mono ?_); rintro e w' ⟨rfl, ⟨nd, rfl⟩⟩; refine ⟨_, rfl, ?_⟩))
      go_ret2
      exact ⟨by first | rfl | (simp [errW_none, errW_some] <;> rfl) | (simp [*, errW_none, errW_some] <;> rfl), by repeat (first | (with_reducible first | exact HB.out | apply lA | apply lN | apply lD) | exact HB.out)⟩
     ·rw [if_neg c13] at H
      have c13b0 : decide (0 ≤ t146) = false := decide_eq_false c13
      clear c13
      replace H := Option.bind_eq_some_iff.mp H
      obtain ⟨t147, A140, H⟩ := H
      replace H : (if t147 ≥ 0 then (some (6, 1)) else ((strings_TrimPrefix.f a0 (⟨#[95]⟩ : ByteArray)).bind fun t148 => ((run_figure.f t148).bind fun t149 => (if 0 ≤ (wrap64 ((wrap64 ((a0.size : Int) - (t148.size : Int))) + t149)) then (if (wrap64 ((wrap64 ((a0.size : Int) - (t148.size : Int))) + t149)) ≤ (a0.size : Int) then ((lex_Number.f k (a0.extract 0 ((wrap64 ((wrap64 ((a0.size : Int) - (t148.size : Int))) + t149)) : Int).toNat)).bind fun bt150 => (if bt150.2 = true then (some (1, wrap64 ((wrap64 ((a0.size : Int) - (t148.size : Int))) + t149))) else (some (0, 0)))) else (none)) else (none))))) = some (r1, r2) := H
      have A14 := am A140
      clear A140
      by_cases c15 : t147 ≥ 0
      ·rw [if_pos c15] at H
       have c15b0 : decide (0 ≤ t147) = true := decide_eq_true c15
       clear c15
       simp only [Option.some.injEq, Prod.mk.injEq] at H
       obtain ⟨rfl, rfl⟩ := H
       have p3 : 0 ≤ (0 : Int) := (by omega)
       have q3 : 0 < a0.size := (by have : (0 : Int) < (a0.size : Int) := of_decide_eq_true (by first | (with_reducible assumption) | assumption); omega)
       have hx3 : ∀ h : 0 < a0.size, ((a0[0]'h).toNat : Int) = bt a0 0 := bt_at a0 0
       clear p3
       have qi3 : (0 < (a0.size : Int)) = True := eq_true (of_decide_eq_true (by first | (with_reducible assumption) | assumption))
       replace q3 := eq_true q3
       go_enter Try.func65, Try.ntmps65
       go_wp2_with (first | ((with_reducible refine gate_callee (f := 84) rfl ?_); refine goesL_ (some 13) rfl rfl Try.func84 (by kernel_rfl) rfl #[.int .u8 (bt a0 0)] rfl (by (try simp only [List.map_toArray, List.map_cons, List.map_nil]); first | done | rfl | (simp only [List.length_drop, List.length_take]; rfl)) ?_; (with_reducible refine (lex_small.calls (bt a0 0) false _ A4.out).mono ?_); rintro e w' ⟨rfl, ⟨nd, rfl⟩⟩; refine ⟨_, rfl, ?_⟩) | ((with_reducible refine gate_callee (f := 88) rfl ?_); refine goesL_ (some 18) rfl rfl Try.func88 (by kernel_rfl) rfl #[.int .u8 (bt a0 0)] rfl (by (try simp only [List.map_toArray, List.map_cons, List.map_nil]); first | done | rfl | (simp only [List.length_drop, List.length_take]; rfl)) ?_; (with_reducible refine (lex_great.calls (bt a0 0) false _ A7.out).mono ?_); rintro e w' ⟨rfl, ⟨nd, rfl⟩⟩; refine ⟨_, rfl, ?_⟩) | ((with_reducible refine gate_callee (f := 90) rfl ?_); refine goesL_ (some 23) rfl rfl Try.func90 (by kernel_rfl) rfl #[.string (⟨#[43, 45, 42, 37, 33, 38, 124, 60, 62, 61, 126, 44, 35, 94, 36, 63, 64]⟩ : ByteArray), .int .u8 (bt a0 0)] rfl (by (try simp only [List.map_toArray, List.map_cons, List.map_nil]); first | done | rfl | (simp only [List.length_drop, List.length_take]; rfl)) ?_; (with_reducible refine (strings_IndexByte.calls (⟨#[43, 45, 42, 37, 33, 38, 124, 60, 62, 61, 126, 44, 35, 94, 36, 63, 64]⟩ : ByteArray) (bt a0 0) t145 _ A10.out).mono ?_); rintro e w' ⟨rfl, ⟨nd, rfl⟩⟩; refine ⟨_, rfl, ?_⟩) | ((with_reducible refine gate_callee (f := 90) rfl ?_); refine goesL_ (some 27) rfl rfl Try.func90 (by kernel_rfl) rfl #[.string (⟨#[39, 47, 92, 46, 96]⟩ : ByteArray), .int .u8 (bt a0 0)] rfl (by (try simp only [List.map_toArray, List.map_cons, List.map_nil]); first | done | rfl | (simp only [List.length_drop, List.length_take]; rfl)) ?_; (with_reducible refine (strings_IndexByte.calls (⟨#[39, 47, 92, 46, 96]⟩ : ByteArray) (bt a0 0) t146 _ A12.out).mono ?_); rintro e w' ⟨rfl, ⟨nd, rfl⟩⟩; refine ⟨_, rfl, ?_⟩) | ((with_reducible refine gate_callee (f := 90) rfl ?_); refine goesL_ (some 31) rfl rfl Try.func90 (by kernel_rfl) rfl #[.string (⟨#[40, 41, 91, 93, 123, 125, 58]⟩ : ByteArray), .int .u8 (bt a0 0)] rfl (by (try simp only [List.map_toArray, List.map_cons, List.map_nil]); first | done | rfl | (simp only [List.length_drop, List.length_take]; rfl)) ?_; (with_reducible refine (strings_IndexByte.calls (⟨#[40, 41, 91, 93, 123, 125, 58]⟩ : ByteArray) (bt a0 0) t147 _ A14.out).mono ?_); rintro e w' ⟨rfl, ⟨nd, rfl⟩⟩; refine ⟨_, rfl, ?_⟩))
       go_ret2
       exact ⟨by first | rfl | (simp [errW_none, errW_some] <;> rfl) | (simp [*, errW_none, errW_some] <;> rfl), by repeat (first | (with_reducible first | exact HB.out | apply lA | apply lN | apply lD) | exact HB.out)⟩
      ·rw [if_neg c15] at H
       have c15b0 : decide (0 ≤ t147) = false := decide_eq_false c15
       clear c15
       replace H := Option.bind_eq_some_iff.mp H
       obtain ⟨t148, A160, H⟩ := H
       replace H : ((run_figure.f t148).bind fun t149 => (if 0 ≤ (wrap64 ((wrap64 ((a0.size : Int) - (t148.size : Int))) + t149)) then (if (wrap64 ((wrap64 ((a0.size : Int) - (t148.size : Int))) + t149)) ≤ (a0.size : Int) then ((lex_Number.f k (a0.extract 0 ((wrap64 ((wrap64 ((a0.size : Int) - (t148.size : Int))) + t149)) : Int).toNat)).bind fun bt150 => (if bt150.2 = true then (some (1, wrap64 ((wrap64 ((a0.size : Int) - (t148.size : Int))) + t149))) else (some (0, 0)))) else (none)) else (none))) = some (r1, r2) := H
       have A16 := am A160
       clear A160
       replace H := Option.bind_eq_some_iff.mp H
       obtain ⟨t149, A170, H⟩ := H
       replace H : (if 0 ≤ (wrap64 ((wrap64 ((a0.size : Int) - (t148.size : Int))) + t149)) then (if (wrap64 ((wrap64 ((a0.size : Int) - (t148.size : Int))) + t149)) ≤ (a0.size : Int) then ((lex_Number.f k (a0.extract 0 ((wrap64 ((wrap64 ((a0.size : Int) - (t148.size : Int))) + t149)) : Int).toNat)).bind fun bt150 => (if bt150.2 = true then (some (1, wrap64 ((wrap64 ((a0.size : Int) - (t148.size : Int))) + t149))) else (some (0, 0)))) else (none)) else (none)) = some (r1, r2) := H
       have A17 := am A170
       clear A170
       obtain ⟨ji18, hji18⟩ : ∃ j_ : Int, (wrap64 ((wrap64 ((a0.size : Int) - (t148.size : Int))) + t149)) = j_ := ⟨_, rfl⟩
       replace H : (if 0 ≤ (ji18) then (if (ji18) ≤ (a0.size : Int) then ((lex_Number.f k (a0.extract 0 ((ji18) : Int).toNat)).bind fun bt150 => (if bt150.2 = true then (some (1, ji18)) else (some (0, 0)))) else (none)) else (none)) = some (r1, r2) := by first | (rw [hji18] at H; exact H) | (simp only [hji18] at H ⊢; exact H)
       (try rw [hji18] at A4)
       (try rw [hji18] at A7)
       (try rw [hji18] at A10)
       (try rw [hji18] at A12)
       (try rw [hji18] at A14)
       (try rw [hji18] at A16)
       (try rw [hji18] at A17)
       have hji18w : (IntKind.i64.wrap ((wrap64 ((a0.size : Int) - (t148.size : Int))) + t149)) = ji18 := (i64_w _).trans hji18
       by_cases c19 : 0 ≤ (ji18)
       ·rw [if_pos c19] at H
        have c19b0 := eq_true c19
        have c19b1 : decide (0 ≤ (ji18)) = true := decide_eq_true c19
        clear c19
        by_cases c20 : (ji18) ≤ (a0.size : Int)
        ·rw [if_pos c20] at H
         have c20b0 := eq_true c20
         have c20b1 : decide ((ji18) ≤ (a0.size : Int)) = true := decide_eq_true c20
         clear c20
         replace H := Option.bind_eq_some_iff.mp H
         obtain ⟨⟨t150, t151⟩, A210, H⟩ := H
         replace H : (if t151 = true then (some (1, ji18)) else (some (0, 0))) = some (r1, r2) := H
         have A21 := am A210
         clear A210
         by_cases c22 : t151 = true
         ·subst c22
          have H1 : (some (1, ji18)) = some (r1, r2) := by rw [if_pos rfl] at H; exact H
          clear H
          have H := H1
          clear H1
          simp only [Option.some.injEq, Prod.mk.injEq] at H
          obtain ⟨rfl, rfl⟩ := H
          have p3 : 0 ≤ (0 : Int) := (by omega)
          have q3 : 0 < a0.size := (by have : (0 : Int) < (a0.size : Int) := of_decide_eq_true (by first | (with_reducible assumption) | assumption); omega)
          have hx3 : ∀ h : 0 < a0.size, ((a0[0]'h).toNat : Int) = bt a0 0 := bt_at a0 0
          clear p3
          have qi3 : (0 < (a0.size : Int)) = True := eq_true (of_decide_eq_true (by first | (with_reducible assumption) | assumption))
          replace q3 := eq_true q3
          go_enter Try.func65, Try.ntmps65
          go_wp2_with (first | ((with_reducible refine gate_callee (f := 84) rfl ?_); refine goesL_ (some 13) rfl rfl Try.func84 (by kernel_rfl) rfl #[.int .u8 (bt a0 0)] rfl (by (try simp only [List.map_toArray, List.map_cons, List.map_nil]); first | done | rfl | (simp only [List.length_drop, List.length_take]; rfl)) ?_; (with_reducible refine (lex_small.calls (bt a0 0) false _ A4.out).mono ?_); rintro e w' ⟨rfl, ⟨nd, rfl⟩⟩; refine ⟨_, rfl, ?_⟩) | ((with_reducible refine gate_callee (f := 88) rfl ?_); refine goesL_ (some 18) rfl rfl Try.func88 (by kernel_rfl) rfl #[.int .u8 (bt a0 0)] rfl (by (try simp only [List.map_toArray, List.map_cons, List.map_nil]); first | done | rfl | (simp only [List.length_drop, List.length_take]; rfl)) ?_; (with_reducible refine (lex_great.calls (bt a0 0) false _ A7.out).mono ?_); rintro e w' ⟨rfl, ⟨nd, rfl⟩⟩; refine ⟨_, rfl, ?_⟩) | ((with_reducible refine gate_callee (f := 90) rfl ?_); refine goesL_ (some 23) rfl rfl Try.func90 (by kernel_rfl) rfl #[.string (⟨#[43, 45, 42, 37, 33, 38, 124, 60, 62, 61, 126, 44, 35, 94, 36, 63, 64]⟩ : ByteArray), .int .u8 (bt a0 0)] rfl (by (try simp only [List.map_toArray, List.map_cons, List.map_nil]); first | done | rfl | (simp only [List.length_drop, List.length_take]; rfl)) ?_; (with_reducible refine (strings_IndexByte.calls (⟨#[43, 45, 42, 37, 33, 38, 124, 60, 62, 61, 126, 44, 35, 94, 36, 63, 64]⟩ : ByteArray) (bt a0 0) t145 _ A10.out).mono ?_); rintro e w' ⟨rfl, ⟨nd, rfl⟩⟩; refine ⟨_, rfl, ?_⟩) | ((with_reducible refine gate_callee (f := 90) rfl ?_); refine goesL_ (some 27) rfl rfl Try.func90 (by kernel_rfl) rfl #[.string (⟨#[39, 47, 92, 46, 96]⟩ : ByteArray), .int .u8 (bt a0 0)] rfl (by (try simp only [List.map_toArray, List.map_cons, List.map_nil]); first | done | rfl | (simp only [List.length_drop, List.length_take]; rfl)) ?_; (with_reducible refine (strings_IndexByte.calls (⟨#[39, 47, 92, 46, 96]⟩ : ByteArray) (bt a0 0) t146 _ A12.out).mono ?_); rintro e w' ⟨rfl, ⟨nd, rfl⟩⟩; refine ⟨_, rfl, ?_⟩) | ((with_reducible refine gate_callee (f := 90) rfl ?_); refine goesL_ (some 31) rfl rfl Try.func90 (by kernel_rfl) rfl #[.string (⟨#[40, 41, 91, 93, 123, 125, 58]⟩ : ByteArray), .int .u8 (bt a0 0)] rfl (by (try simp only [List.map_toArray, List.map_cons, List.map_nil]); first | done | rfl | (simp only [List.length_drop, List.length_take]; rfl)) ?_; (with_reducible refine (strings_IndexByte.calls (⟨#[40, 41, 91, 93, 123, 125, 58]⟩ : ByteArray) (bt a0 0) t147 _ A14.out).mono ?_); rintro e w' ⟨rfl, ⟨nd, rfl⟩⟩; refine ⟨_, rfl, ?_⟩) | ((with_reducible refine gate_callee (f := 80) rfl ?_); refine goesL_ (some 34) rfl rfl Try.func80 (by kernel_rfl) rfl #[.string a0, .string (⟨#[95]⟩ : ByteArray)] rfl (by (try simp only [List.map_toArray, List.map_cons, List.map_nil]); first | done | rfl | (simp only [List.length_drop, List.length_take]; rfl)) ?_; (with_reducible refine (strings_TrimPrefix.calls a0 (⟨#[95]⟩ : ByteArray) t148 _ A16.out).mono ?_); rintro e w' ⟨rfl, ⟨nd, rfl⟩⟩; refine ⟨_, rfl, ?_⟩) | ((with_reducible refine gate_callee (f := 85) rfl ?_); refine goesL_ (some 41) rfl rfl Try.func85 (by kernel_rfl) rfl #[.string t148, .func (.func 87) #[] #[]] rfl (by (try simp only [List.map_toArray, List.map_cons, List.map_nil]); first | done | rfl | (simp only [List.length_drop, List.length_take]; rfl)) ?_; (with_reducible refine (run_figure.calls t148  t149 _ A17.out).mono ?_); rintro e w' ⟨rfl, ⟨nd, rfl⟩⟩; refine ⟨_, rfl, ?_⟩) | ((with_reducible refine gate_callee (f := 91) rfl ?_); refine goesL_ (some 47) rfl rfl Try.func91 (by kernel_rfl) rfl #[.string (a0.extract 0 ((ji18) : Int).toNat)] rfl (by (try simp only [List.map_toArray, List.map_cons, List.map_nil]); first | done | (simp only [hji18]; rfl) | rfl | (simp only [List.length_drop, List.length_take]; rfl)) ?_; (with_reducible refine (lex_Number.calls k (a0.extract 0 ((ji18) : Int).toNat) t150 true _ A21.out).mono ?_); rintro e w23 ⟨rfl, hb⟩; refine ⟨_, rfl, ?_⟩; have n0_ := am (below_step (by repeat (first | (with_reducible first | exact HB.out | apply lA | apply lN | apply lD) | exact HB.out)) hb); clear HB; have HB := n0_; clear n0_; (try clear hb); (try clear hb2); (try clear hk); (try clear hi)))
          go_ret2
          exact ⟨by first | rfl | (simp [errW_none, errW_some] <;> rfl) | (simp only [← hji18]; first | rfl | (simp [errW_none, errW_some] <;> rfl)) | (simp [*, errW_none, errW_some] <;> rfl), by repeat (first | (with_reducible first | exact HB.out | apply lA | apply lN | apply lD) | exact HB.out)⟩
         ·replace c22 := Bool.eq_false_iff.mpr c22
          subst c22
          have H1 : (some (0, 0)) = some (r1, r2) := by rw [if_neg (show ¬ (false = true) by decide)] at H; exact H
          clear H
          have H := H1
          clear H1
          simp only [Option.some.injEq, Prod.mk.injEq] at H
          obtain ⟨rfl, rfl⟩ := H
          have p3 : 0 ≤ (0 : Int) := (by omega)
          have q3 : 0 < a0.size := (by have : (0 : Int) < (a0.size : Int) := of_decide_eq_true (by first | (with_reducible assumption) | assumption); omega)
          have hx3 : ∀ h : 0 < a0.size, ((a0[0]'h).toNat : Int) = bt a0 0 := bt_at a0 0
          clear p3
          have qi3 : (0 < (a0.size : Int)) = True := eq_true (of_decide_eq_true (by first | (with_reducible assumption) | assumption))
          replace q3 := eq_true q3
          go_enter Try.func65, Try.ntmps65
          go_wp2_with (first | ((with_reducible refine gate_callee (f := 84) rfl ?_); refine goesL_ (some 13) rfl rfl Try.func84 (by kernel_rfl) rfl #[.int .u8 (bt a0 0)] rfl (by (try simp only [List.map_toArray, List.map_cons, List.map_nil]); first | done | rfl | (simp only [List.length_drop, List.length_take]; rfl)) ?_; (with_reducible refine (lex_small.calls (bt a0 0) false _ A4.out).mono ?_); rintro e w' ⟨rfl, ⟨nd, rfl⟩⟩; refine ⟨_, rfl, ?_⟩) | ((with_reducible refine gate_callee (f := 88) rfl ?_); refine goesL_ (some 18) rfl rfl Try.func88 (by kernel_rfl) rfl #[.int .u8 (bt a0 0)] rfl (by (try simp only [List.map_toArray, List.map_cons, List.map_nil]); first | done | rfl | (simp only [List.length_drop, List.length_take]; rfl)) ?_; (with_reducible refine (lex_great.calls (bt a0 0) false _ A7.out).mono ?_); rintro e w' ⟨rfl, ⟨nd, rfl⟩⟩; refine ⟨_, rfl, ?_⟩) | ((with_reducible refine gate_callee (f := 90) rfl ?_); refine goesL_ (some 23) rfl rfl Try.func90 (by kernel_rfl) rfl #[.string (⟨#[43, 45, 42, 37, 33, 38, 124, 60, 62, 61, 126, 44, 35, 94, 36, 63, 64]⟩ : ByteArray), .int .u8 (bt a0 0)] rfl (by (try simp only [List.map_toArray, List.map_cons, List.map_nil]); first | done | rfl | (simp only [List.length_drop, List.length_take]; rfl)) ?_; (with_reducible refine (strings_IndexByte.calls (⟨#[43, 45, 42, 37, 33, 38, 124, 60, 62, 61, 126, 44, 35, 94, 36, 63, 64]⟩ : ByteArray) (bt a0 0) t145 _ A10.out).mono ?_); rintro e w' ⟨rfl, ⟨nd, rfl⟩⟩; refine ⟨_, rfl, ?_⟩) | ((with_reducible refine gate_callee (f := 90) rfl ?_); refine goesL_ (some 27) rfl rfl Try.func90 (by kernel_rfl) rfl #[.string (⟨#[39, 47, 92, 46, 96]⟩ : ByteArray), .int .u8 (bt a0 0)] rfl (by (try simp only [List.map_toArray, List.map_cons, List.map_nil]); first | done | rfl | (simp only [List.length_drop, List.length_take]; rfl)) ?_; (with_reducible refine (strings_IndexByte.calls (⟨#[39, 47, 92, 46, 96]⟩ : ByteArray) (bt a0 0) t146 _ A12.out).mono ?_); rintro e w' ⟨rfl, ⟨nd, rfl⟩⟩; refine ⟨_, rfl, ?_⟩) | ((with_reducible refine gate_callee (f := 90) rfl ?_); refine goesL_ (some 31) rfl rfl Try.func90 (by kernel_rfl) rfl #[.string (⟨#[40, 41, 91, 93, 123, 125, 58]⟩ : ByteArray), .int .u8 (bt a0 0)] rfl (by (try simp only [List.map_toArray, List.map_cons, List.map_nil]); first | done | rfl | (simp only [List.length_drop, List.length_take]; rfl)) ?_; (with_reducible refine (strings_IndexByte.calls (⟨#[40, 41, 91, 93, 123, 125, 58]⟩ : ByteArray) (bt a0 0) t147 _ A14.out).mono ?_); rintro e w' ⟨rfl, ⟨nd, rfl⟩⟩; refine ⟨_, rfl, ?_⟩) | ((with_reducible refine gate_callee (f := 80) rfl ?_); refine goesL_ (some 34) rfl rfl Try.func80 (by kernel_rfl) rfl #[.string a0, .string (⟨#[95]⟩ : ByteArray)] rfl (by (try simp only [List.map_toArray, List.map_cons, List.map_nil]); first | done | rfl | (simp only [List.length_drop, List.length_take]; rfl)) ?_; (with_reducible refine (strings_TrimPrefix.calls a0 (⟨#[95]⟩ : ByteArray) t148 _ A16.out).mono ?_); rintro e w' ⟨rfl, ⟨nd, rfl⟩⟩; refine ⟨_, rfl, ?_⟩) | ((with_reducible refine gate_callee (f := 85) rfl ?_); refine goesL_ (some 41) rfl rfl Try.func85 (by kernel_rfl) rfl #[.string t148, .func (.func 87) #[] #[]] rfl (by (try simp only [List.map_toArray, List.map_cons, List.map_nil]); first | done | rfl | (simp only [List.length_drop, List.length_take]; rfl)) ?_; (with_reducible refine (run_figure.calls t148  t149 _ A17.out).mono ?_); rintro e w' ⟨rfl, ⟨nd, rfl⟩⟩; refine ⟨_, rfl, ?_⟩) | ((with_reducible refine gate_callee (f := 91) rfl ?_); refine goesL_ (some 47) rfl rfl Try.func91 (by kernel_rfl) rfl #[.string (a0.extract 0 ((ji18) : Int).toNat)] rfl (by (try simp only [List.map_toArray, List.map_cons, List.map_nil]); first | done | (simp only [hji18]; rfl) | rfl | (simp only [List.length_drop, List.length_take]; rfl)) ?_; (with_reducible refine (lex_Number.calls k (a0.extract 0 ((ji18) : Int).toNat) t150 false _ A21.out).mono ?_); rintro e w24 ⟨rfl, hb⟩; refine ⟨_, rfl, ?_⟩; have n0_ := am (below_step (by repeat (first | (with_reducible first | exact HB.out | apply lA | apply lN | apply lD) | exact HB.out)) hb); clear HB; have HB := n0_; clear n0_; (try clear hb); (try clear hb2); (try clear hk); (try clear hi)))
          go_ret2
          exact ⟨by first | rfl | (simp [errW_none, errW_some] <;> rfl) | (simp only [← hji18]; first | rfl | (simp [errW_none, errW_some] <;> rfl)) | (simp [*, errW_none, errW_some] <;> rfl), by repeat (first | (with_reducible first | exact HB.out | apply lA | apply lN | apply lD) | exact HB.out)⟩
        ·rw [if_neg c20] at H
         exact absurd H (by simp)
       ·rw [if_neg c19] at H
        exact absurd H (by simp)
 ·rw [if_neg c2] at H
  exact absurd H (by simp)
def lex_Lex.l0 : Nat → ByteArray → List (S71) → Int → Option ((List (S71)) × Int × Int)
 | 0, _, _, _ => none
 | k + 1, x0, x5, x6 => if x6 < (x0.size : Int) then (if 0 ≤ x6 then (if 0 < 1 then (if (bt x0 x6) = (bt (⟨#[32]⟩ : ByteArray) 0) then (lex_Lex.l0 k x0 x5 (wrap64 (x6 + 1))) else (if x6 ≤ (x0.size : Int) then ((lex_first.f k (x0.extract (x6 : Int).toNat x0.size)).bind fun bt152 => (if bt152.1 = 0 then (some (([] : List (S71)), x6, 2)) else (if x6 ≤ (wrap64 (x6 + bt152.2)) then (if (wrap64 (x6 + bt152.2)) ≤ (x0.size : Int) then (if x5.length < 4398046511104 then (lex_Lex.l0 k x0 (x5 ++ [(⟨bt152.1, x0.extract (x6 : Int).toNat ((wrap64 (x6 + bt152.2)) : Int).toNat, x6⟩ : S71)]) (wrap64 (x6 + bt152.2))) else (none)) else (none)) else (none)))) else (none))) else (none)) else (none)) else (some (x5, 0, 0))
def lex_Lex.f (k : Nat) (a0 : ByteArray) : Option ((List (S71)) × Int × Int) := if (a0.size : Int) > 256 then (some (([] : List (S71)), 0, 8)) else (lex_Lex.l0 k a0 ([] : List (S71)) 0)
theorem lex_Lex.mono_l : ∀ k, (∀ y0 y1 y2, LeO (lex_Lex.l0 k y0 y1 y2) (lex_Lex.l0 (k + 1) y0 y1 y2))
 | 0 => fun _ _ _ r h => by simp [lex_Lex.l0] at h
 | k + 1 => by
  have ih0 := lex_Lex.mono_l k
  ·intro y0 y1 y2
   unfold lex_Lex.l0
   repeat' first
   | (with_reducible exact ih0 _ _ _)
   | (with_reducible exact lex_first.mono _ _)
   | (with_reducible exact LeO.refl _)
   | (with_reducible exact LeO.none _)
   | (with_reducible refine LeO.ite ?_ ?_)
   | (with_reducible refine LeO.bind ?_ (fun _ => ?_))
   | exact ih0 _ _ _
   | exact lex_first.mono _ _
   | exact LeO.none _
   | refine LeO.ite ?_ ?_
   | refine LeO.bind ?_ (fun _ => ?_)
theorem lex_Lex.mono : ∀ a0 k, LeO (lex_Lex.f k a0) (lex_Lex.f (k + 1) a0) := by
 intro a0 k
 have ih0 := lex_Lex.mono_l k
 unfold lex_Lex.f
 repeat' first
   | (with_reducible exact ih0 _ _ _)
   | (with_reducible exact lex_first.mono _ _)
   | (with_reducible exact LeO.refl _)
   | (with_reducible exact LeO.none _)
   | (with_reducible refine LeO.ite ?_ ?_)
   | (with_reducible refine LeO.bind ?_ (fun _ => ?_))
   | exact ih0 _ _ _
   | exact lex_first.mono _ _
   | exact LeO.none _
   | refine LeO.ite ?_ ?_
   | refine LeO.bind ?_ (fun _ => ?_)
set_option maxHeartbeats 8000000 in
set_option maxRecDepth 100000 in
theorem lex_Lex.calls (k : Nat) (a0 : ByteArray) (r1 : List (S71)) (r2 : Int) (r3 : Int) (w : World) (h : lex_Lex.f k a0 = some (r1, r2, r3)) :
  Calls Try.prog 49 #[.string a0] w fun e w' => ∃ v0_ : Value, e = .returned (.tuple #[v0_, .int .i64 r2, .int .i64 r3]) ∧ Kd.R k71 71 w' w.heap.size (fun _ => True) v0_ r1 ∧ Below w.heap.size w w' := by
 have hu71 := Try.underlying71
 have HB := am (Below.refl w.heap.size w)
 have H : (if (a0.size : Int) > 256 then (some (([] : List (S71)), 0, 8)) else (lex_Lex.l0 k a0 ([] : List (S71)) 0)) = some (r1, r2, r3) := h
 clear h
 by_cases c2 : (a0.size : Int) > 256
 ·rw [if_pos c2] at H
  have c2b0 : decide (256 < (a0.size : Int)) = true := decide_eq_true c2
  have c2b1 : decide (256 < a0.size) = true := decide_eq_true (by omega)
  clear c2
  simp only [Option.some.injEq, Prod.mk.injEq] at H
  obtain ⟨rfl, rfl, rfl⟩ := H
  go_enter Try.func49, Try.ntmps49
  (try go_wp2)
  (try go_step3)
  go_wp2
  repeat (go_quiet (fail); try go_wp2)
  (try rw [Exit.noGoto_ret])
  go_ret3
  exact ⟨_, by first | rfl | (simp [errW_none, errW_some] <;> rfl) | (simp [*, errW_none, errW_some] <;> rfl), by first | exact Kd.R_nil _ _ _ _ _ | exact Kd.N_nil _ _ _ _ _ | exact Kd.V_nil _ _ _ _ _ | exact Kd.Q_nil _ _ _ _ _ | exact Kd.S_nil _ _ _ _ _, by repeat (first | (with_reducible first | exact HB.out | apply lA | apply lN | apply lD) | exact HB.out)⟩
 ·rw [if_neg c2] at H
  have c2b0 : decide (256 < (a0.size : Int)) = false := decide_eq_false c2
  have c2b1 : decide (256 < a0.size) = false := decide_eq_false (by omega)
  clear c2
  have H' := am H
  clear H
  go_enter Try.func49, Try.ntmps49
  (try go_wp2)
  (try go_step3)
  go_wp2
  repeat (go_quiet (fail); try go_wp2)
  (try go_step3)
  (try go_wp2)
  go_loopg [5, 6] k (fun kq v5 v6 w' => ∃ (x5_1 : List (S71)) (x6_1 : Int), v6 = .int .i64 x6_1 ∧ Aside0 (lex_Lex.l0 kq a0 x5_1 x6_1 = some (r1, r2, r3)) ∧ Aside0 (kq ≤ k) ∧ Aside0 (Kd.R k71 71 w' w.heap.size (fun _ => True) v5 x5_1) ∧ Aside0 (Below w.heap.size w w'))
  case atStart => exact ⟨(([] : List (S71))), (0), (by first | rfl | (simp; done) | (simp [*]; done)), H', ⟨Nat.le_refl _⟩, ⟨by first | exact Kd.R_nil _ _ _ _ _ | exact Kd.N_nil _ _ _ _ _ | exact Kd.V_nil _ _ _ _ _ | exact Kd.Q_nil _ _ _ _ _ | exact Kd.S_nil _ _ _ _ _⟩, ⟨by repeat (first | (with_reducible first | exact HB.out | apply lA | apply lN | apply lD) | exact HB.out)⟩⟩
  case round =>
   clear H'
   try clear c2
   try clear c2b0
   try clear c2b1
   try clear p2
   obtain ⟨x5_1, x6_1, rfl, HA, HK1, HO_5, HB⟩ := hrel
   cases gk with
   | zero => exact absurd HA.out (by simp [lex_Lex.l0])
   | succ k1 =>
    have H := HA.out
    clear HA
    simp only [lex_Lex.l0] at H
    by_cases c3 : x6_1 < (a0.size : Int)
    ·rw [if_pos c3] at H
     have c3b0 : decide (x6_1 < (a0.size : Int)) = true := decide_eq_true c3
     clear c3
     by_cases c4 : 0 ≤ x6_1
     ·rw [if_pos c4] at H
      have c4b0 : decide (0 ≤ x6_1) = true := decide_eq_true c4
      clear c4
      by_cases c6 : 0 < 1
      ·rw [if_pos c6] at H
       have c6b0 : decide (0 < 1) = true := decide_eq_true c6
       clear c6
       by_cases c8 : (bt a0 x6_1) = (bt (⟨#[32]⟩ : ByteArray) 0)
       ·rw [if_pos c8] at H
        have c8b0 : ((bt a0 x6_1) == (bt (⟨#[32]⟩ : ByteArray) 0)) = true := beq_iff_eq.mpr c8
        have c8b1 : ((bt a0 x6_1) != (bt (⟨#[32]⟩ : ByteArray) 0)) = false := bne_eq_false_iff_eq.mpr c8
        clear c8
        have H' := am H
        clear H
        have p5 : 0 ≤ (x6_1 : Int) := of_decide_eq_true (by first | (with_reducible assumption) | assumption)
        have q5 : x6_1 < (a0.size : Int) := of_decide_eq_true (by first | (with_reducible assumption) | assumption)
        have hx5 := bt_at a0 x6_1
        replace p5 := eq_true p5
        replace q5 := eq_true q5
        have p7 : 0 ≤ (0 : Int) := (by omega)
        have q7 : 0 < (1 : Int) := (by omega)
        have hx7 := bt_at (⟨#[32]⟩ : ByteArray) 0
        have hx7L : ∀ (h : 0 < (⟨#[32]⟩ : ByteArray).size), ((((⟨#[32]⟩ : ByteArray)[0]'h).toNat : Nat) : Int) = bt (⟨#[32]⟩ : ByteArray) 0 := fun h => hx7 h
        replace p7 := eq_true p7
        replace q7 := eq_true q7
        go_wp2
        repeat (go_quiet (fail); try go_wp2)
        go_roundg k1
        case measure => have := HK1.out; omega
        case rel => exact ⟨(x5_1), (wrap64 (x6_1 + 1)), (by first | rfl | (simp; done) | (simp [*]; done)), H', ⟨by have := HK1.out; omega⟩, ⟨by (with_reducible repeat (first | apply Kd.R_alloc | apply Kd.R_drewN | apply Kd.R_drew)); exact HO_5.out⟩, ⟨by repeat (first | (with_reducible first | exact HB.out | apply lA | apply lN | apply lD) | exact HB.out)⟩⟩
       ·rw [if_neg c8] at H
        have c8b0 : ((bt a0 x6_1) == (bt (⟨#[32]⟩ : ByteArray) 0)) = false := beq_eq_false_iff_ne.mpr c8
        have c8b1 : ((bt a0 x6_1) != (bt (⟨#[32]⟩ : ByteArray) 0)) = true := bne_iff_ne.mpr c8
        have c9b0 := eq_true (of_decide_eq_true (by first | (with_reducible assumption) | assumption) : 0 ≤ x6_1)
        by_cases c10 : x6_1 ≤ (a0.size : Int)
        ·rw [if_pos c10] at H
         have c10b0 := eq_true c10
         have c10b1 : decide (x6_1 ≤ (a0.size : Int)) = true := decide_eq_true c10
         clear c10
         replace H := Option.bind_eq_some_iff.mp H
         obtain ⟨⟨t152, t153⟩, A110, H⟩ := H
         replace H : (if t152 = 0 then (some (([] : List (S71)), x6_1, 2)) else (if x6_1 ≤ (wrap64 (x6_1 + t153)) then (if (wrap64 (x6_1 + t153)) ≤ (a0.size : Int) then (if x5_1.length < 4398046511104 then (lex_Lex.l0 k1 a0 (x5_1 ++ [(⟨t152, a0.extract (x6_1 : Int).toNat ((wrap64 (x6_1 + t153)) : Int).toNat, x6_1⟩ : S71)]) (wrap64 (x6_1 + t153))) else (none)) else (none)) else (none))) = some (r1, r2, r3) := H
         have A11 := am A110
         clear A110
         by_cases c12 : t152 = 0
         ·rw [if_pos c12] at H
          have c12b0 : (t152 == 0) = true := beq_iff_eq.mpr c12
          have c12b1 : (t152 != 0) = false := bne_eq_false_iff_eq.mpr c12
          clear c12
          simp only [Option.some.injEq, Prod.mk.injEq] at H
          obtain ⟨rfl, rfl, rfl⟩ := H
          have p5 : 0 ≤ (x6_1 : Int) := of_decide_eq_true (by first | (with_reducible assumption) | assumption)
          have q5 : x6_1 < (a0.size : Int) := of_decide_eq_true (by first | (with_reducible assumption) | assumption)
          have hx5 := bt_at a0 x6_1
          replace p5 := eq_true p5
          replace q5 := eq_true q5
          have p7 : 0 ≤ (0 : Int) := (by omega)
          have q7 : 0 < (1 : Int) := (by omega)
          have hx7 := bt_at (⟨#[32]⟩ : ByteArray) 0
          have hx7L : ∀ (h : 0 < (⟨#[32]⟩ : ByteArray).size), ((((⟨#[32]⟩ : ByteArray)[0]'h).toNat : Nat) : Int) = bt (⟨#[32]⟩ : ByteArray) 0 := fun h => hx7 h
          replace p7 := eq_true p7
          replace q7 := eq_true q7
          go_wp2_with (first | (go_at_call 65; (with_reducible refine (lex_first.calls k1 (a0.extract (x6_1 : Int).toNat a0.size) t152 t153 _ A11.out).mono ?_); rintro e w13 ⟨rfl, hb⟩; have n0_ := am (Kd.R_below (by (with_reducible repeat (first | apply Kd.R_alloc | apply Kd.R_drewN | apply Kd.R_drew)); exact HO_5.out) hb); have n1_ := am (below_step (by repeat (first | (with_reducible first | exact HB.out | apply lA | apply lN | apply lD) | exact HB.out)) hb); clear HO_5; clear HB; have HO_5 := n0_; have HB := n1_; clear n0_ n1_; (try clear hb); (try clear hb2); (try clear hk); (try clear hi)))
          repeat (go_quiet (first | (go_at_call 65; (with_reducible refine (lex_first.calls k1 (a0.extract (x6_1 : Int).toNat a0.size) t152 t153 _ A11.out).mono ?_); rintro e w13 ⟨rfl, hb⟩; have n0_ := am (Kd.R_below (by (with_reducible repeat (first | apply Kd.R_alloc | apply Kd.R_drewN | apply Kd.R_drew)); exact HO_5.out) hb); have n1_ := am (below_step (by repeat (first | (with_reducible first | exact HB.out | apply lA | apply lN | apply lD) | exact HB.out)) hb); clear HO_5; clear HB; have HO_5 := n0_; have HB := n1_; clear n0_ n1_; (try clear hb); (try clear hb2); (try clear hk); (try clear hi))); try go_wp2_with (first | (go_at_call 65; (with_reducible refine (lex_first.calls k1 (a0.extract (x6_1 : Int).toNat a0.size) t152 t153 _ A11.out).mono ?_); rintro e w13 ⟨rfl, hb⟩; have n0_ := am (Kd.R_below (by (with_reducible repeat (first | apply Kd.R_alloc | apply Kd.R_drewN | apply Kd.R_drew)); exact HO_5.out) hb); have n1_ := am (below_step (by repeat (first | (with_reducible first | exact HB.out | apply lA | apply lN | apply lD) | exact HB.out)) hb); clear HO_5; clear HB; have HO_5 := n0_; have HB := n1_; clear n0_ n1_; (try clear hb); (try clear hb2); (try clear hk); (try clear hi))))
          (try rw [Exit.noGoto_ret])
          go_ret3
          exact ⟨_, by first | rfl | (simp [errW_none, errW_some] <;> rfl) | (simp [*, errW_none, errW_some] <;> rfl), by first | exact Kd.R_nil _ _ _ _ _ | exact Kd.N_nil _ _ _ _ _ | exact Kd.V_nil _ _ _ _ _ | exact Kd.Q_nil _ _ _ _ _ | exact Kd.S_nil _ _ _ _ _, by repeat (first | (with_reducible first | exact HB.out | apply lA | apply lN | apply lD) | exact HB.out)⟩
         ·rw [if_neg c12] at H
          have c12b0 : (t152 == 0) = false := beq_eq_false_iff_ne.mpr c12
          have c12b1 : (t152 != 0) = true := bne_iff_ne.mpr c12
          have c14b0 := eq_true (of_decide_eq_true (by first | (with_reducible assumption) | assumption) : 0 ≤ x6_1)
          by_cases c15 : x6_1 ≤ (wrap64 (x6_1 + t153))
          ·rw [if_pos c15] at H
           have c15b0 := eq_true c15
           have c15b1 : decide (x6_1 ≤ (wrap64 (x6_1 + t153))) = true := decide_eq_true c15
           by_cases c16 : (wrap64 (x6_1 + t153)) ≤ (a0.size : Int)
           ·rw [if_pos c16] at H
            have c16b0 := eq_true c16
            have c16b1 : decide ((wrap64 (x6_1 + t153)) ≤ (a0.size : Int)) = true := decide_eq_true c16
            by_cases c17 : x5_1.length < 4398046511104
            ·rw [if_pos c17] at H
             have LMc17 := am c17
             clear c17
             obtain ⟨y154, hy154⟩ : ∃ y_ : List (S71), y_ = (x5_1 ++ [(⟨t152, a0.extract (x6_1 : Int).toNat ((wrap64 (x6_1 + t153)) : Int).toNat, x6_1⟩ : S71)]) := ⟨_, rfl⟩
             replace H : (lex_Lex.l0 k1 a0 y154 (wrap64 (x6_1 + t153))) = some (r1, r2, r3) := by first | (rw [hy154]; with_reducible exact H) | (have H2_ := (Option.bind_some _ _).symm.trans H; rw [hy154]; with_reducible exact H2_) | (have H2_ := (Option.bind_some _ _).symm.trans H; with_reducible exact H2_) | with_reducible exact H | (rw [hy154]; exact H) | exact H
             have Ny154 := am hy154
             clear hy154
             have H' := am H
             clear H
             have p5 : 0 ≤ (x6_1 : Int) := of_decide_eq_true (by first | (with_reducible assumption) | assumption)
             have q5 : x6_1 < (a0.size : Int) := of_decide_eq_true (by first | (with_reducible assumption) | assumption)
             have hx5 := bt_at a0 x6_1
             replace p5 := eq_true p5
             replace q5 := eq_true q5
             have p7 : 0 ≤ (0 : Int) := (by omega)
             have q7 : 0 < (1 : Int) := (by omega)
             have hx7 := bt_at (⟨#[32]⟩ : ByteArray) 0
             have hx7L : ∀ (h : 0 < (⟨#[32]⟩ : ByteArray).size), ((((⟨#[32]⟩ : ByteArray)[0]'h).toNat : Nat) : Int) = bt (⟨#[32]⟩ : ByteArray) 0 := fun h => hx7 h
             replace p7 := eq_true p7
             replace q7 := eq_true q7
             go_wp2_with (first | (go_at_call 65; (with_reducible refine (lex_first.calls k1 (a0.extract (x6_1 : Int).toNat a0.size) t152 t153 _ A11.out).mono ?_); rintro e w18 ⟨rfl, hb⟩; have n0_ := am (Kd.R_below (by (with_reducible repeat (first | apply Kd.R_alloc | apply Kd.R_drewN | apply Kd.R_drew)); exact HO_5.out) hb); have n1_ := am (below_step (by repeat (first | (with_reducible first | exact HB.out | apply lA | apply lN | apply lD) | exact HB.out)) hb); clear HO_5; clear HB; have HO_5 := n0_; have HB := n1_; clear n0_ n1_; (try clear hb); (try clear hb2); (try clear hk); (try clear hi)) | ((with_reducible refine gate_builtin (b := .append) (xs := #[.tmp 33, .tmp 43]) rfl ?_); at_builtin; refine Kd.R_append k71 (w0 := w) w.heap.size rfl (.tmp 33) (.tmp 43) 46 71 (.agg #[(.int .i64 0), (.string ⟨#[]⟩), (.int .i64 0)]) 32 rfl Try.underlying46 info71 rfl (by decide) (by omega) u5 x5_1 (⟨t152, a0.extract (x6_1 : Int).toNat ((wrap64 (x6_1 + t153)) : Int).toNat, x6_1⟩ : S71) [.int .i64 t152, .string (a0.extract (x6_1 : Int).toNat ((wrap64 (x6_1 + t153)) : Int).toNat), .int .i64 x6_1] (fun _ => True) (fun _ => False) rfl rfl ?aP (fun _ hk => hk.elim) ?aF ?aO ?aB ?aS ?aL ?_; (case aP => exact k71_mkM _ _ _ (⟨t152, a0.extract (x6_1 : Int).toNat ((wrap64 (x6_1 + t153)) : Int).toNat, x6_1⟩ : S71)); (case aB => exact (by repeat (first | (with_reducible first | exact HB.out | apply lA | apply lN | apply lD) | exact HB.out))); (case aF => exact (fun _ _ => trivial)); (case aO => exact (by (with_reducible repeat (first | apply Kd.R_alloc | apply Kd.R_drewN | apply Kd.R_drew)); exact HO_5.out)); (case aS => exact (below_size (by repeat (first | (with_reducible first | exact HB.out | apply lA | apply lN | apply lD) | exact HB.out)))); (case aL => have := LMc17.out; omega); intro v155 w19 ho hb hg hat; rw [← Ny154.out] at ho; have n0_ := am (hb); have n1_ := am (ho); clear HB; clear HO_5; have HB := n0_; have HO156 := n1_; clear n0_ n1_; clear ho hb hg hat))
             repeat (go_quiet (first | (go_at_call 65; (with_reducible refine (lex_first.calls k1 (a0.extract (x6_1 : Int).toNat a0.size) t152 t153 _ A11.out).mono ?_); rintro e w18 ⟨rfl, hb⟩; have n0_ := am (Kd.R_below (by (with_reducible repeat (first | apply Kd.R_alloc | apply Kd.R_drewN | apply Kd.R_drew)); exact HO_5.out) hb); have n1_ := am (below_step (by repeat (first | (with_reducible first | exact HB.out | apply lA | apply lN | apply lD) | exact HB.out)) hb); clear HO_5; clear HB; have HO_5 := n0_; have HB := n1_; clear n0_ n1_; (try clear hb); (try clear hb2); (try clear hk); (try clear hi)) | ((with_reducible refine gate_builtin (b := .append) (xs := #[.tmp 33, .tmp 43]) rfl ?_); at_builtin; refine Kd.R_append k71 (w0 := w) w.heap.size rfl (.tmp 33) (.tmp 43) 46 71 (.agg #[(.int .i64 0), (.string ⟨#[]⟩), (.int .i64 0)]) 32 rfl Try.underlying46 info71 rfl (by decide) (by omega) u5 x5_1 (⟨t152, a0.extract (x6_1 : Int).toNat ((wrap64 (x6_1 + t153)) : Int).toNat, x6_1⟩ : S71) [.int .i64 t152, .string (a0.extract (x6_1 : Int).toNat ((wrap64 (x6_1 + t153)) : Int).toNat), .int .i64 x6_1] (fun _ => True) (fun _ => False) rfl rfl ?aP (fun _ hk => hk.elim) ?aF ?aO ?aB ?aS ?aL ?_; (case aP => exact k71_mkM _ _ _ (⟨t152, a0.extract (x6_1 : Int).toNat ((wrap64 (x6_1 + t153)) : Int).toNat, x6_1⟩ : S71)); (case aB => exact (by repeat (first | (with_reducible first | exact HB.out | apply lA | apply lN | apply lD) | exact HB.out))); (case aF => exact (fun _ _ => trivial)); (case aO => exact (by (with_reducible repeat (first | apply Kd.R_alloc | apply Kd.R_drewN | apply Kd.R_drew)); exact HO_5.out)); (case aS => exact (below_size (by repeat (first | (with_reducible first | exact HB.out | apply lA | apply lN | apply lD) | exact HB.out)))); (case aL => have := LMc17.out; omega); intro v155 w19 ho hb hg hat; rw [← Ny154.out] at ho; have n0_ := am (hb); have n1_ := am (ho); clear HB; clear HO_5; have HB := n0_; have HO156 := n1_; clear n0_ n1_; clear ho hb hg hat)); try go_wp2_with (first | (go_at_call 65; (with_reducible refine (lex_first.calls k1 (a0.extract (x6_1 : Int).toNat a0.size) t152 t153 _ A11.out).mono ?_); rintro e w18 ⟨rfl, hb⟩; have n0_ := am (Kd.R_below (by (with_reducible repeat (first | apply Kd.R_alloc | apply Kd.R_drewN | apply Kd.R_drew)); exact HO_5.out) hb); have n1_ := am (below_step (by repeat (first | (with_reducible first | exact HB.out | apply lA | apply lN | apply lD) | exact HB.out)) hb); clear HO_5; clear HB; have HO_5 := n0_; have HB := n1_; clear n0_ n1_; (try clear hb); (try clear hb2); (try clear hk); (try clear hi)) | ((with_reducible refine gate_builtin (b := .append) (xs := #[.tmp 33, .tmp 43]) rfl ?_); at_builtin; refine Kd.R_append k71 (w0 := w) w.heap.size rfl (.tmp 33) (.tmp 43) 46 71 (.agg #[(.int .i64 0), (.string ⟨#[]⟩), (.int .i64 0)]) 32 rfl Try.underlying46 info71 rfl (by decide) (by omega) u5 x5_1 (⟨t152, a0.extract (x6_1 : Int).toNat ((wrap64 (x6_1 + t153)) : Int).toNat, x6_1⟩ : S71) [.int .i64 t152, .string (a0.extract (x6_1 : Int).toNat ((wrap64 (x6_1 + t153)) : Int).toNat), .int .i64 x6_1] (fun _ => True) (fun _ => False) rfl rfl ?aP (fun _ hk => hk.elim) ?aF ?aO ?aB ?aS ?aL ?_; (case aP => exact k71_mkM _ _ _ (⟨t152, a0.extract (x6_1 : Int).toNat ((wrap64 (x6_1 + t153)) : Int).toNat, x6_1⟩ : S71)); (case aB => exact (by repeat (first | (with_reducible first | exact HB.out | apply lA | apply lN | apply lD) | exact HB.out))); (case aF => exact (fun _ _ => trivial)); (case aO => exact (by (with_reducible repeat (first | apply Kd.R_alloc | apply Kd.R_drewN | apply Kd.R_drew)); exact HO_5.out)); (case aS => exact (below_size (by repeat (first | (with_reducible first | exact HB.out | apply lA | apply lN | apply lD) | exact HB.out)))); (case aL => have := LMc17.out; omega); intro v155 w19 ho hb hg hat; rw [← Ny154.out] at ho; have n0_ := am (hb); have n1_ := am (ho); clear HB; clear HO_5; have HB := n0_; have HO156 := n1_; clear n0_ n1_; clear ho hb hg hat)))
             go_roundg k1
             case measure => have := HK1.out; omega
             case rel => exact ⟨(y154), (wrap64 (x6_1 + t153)), (by first | rfl | (simp; done) | (simp [*]; done)), H', ⟨by have := HK1.out; omega⟩, ⟨by (with_reducible repeat (first | apply Kd.R_alloc | apply Kd.R_drewN | apply Kd.R_drew)); exact HO156.out⟩, ⟨by repeat (first | (with_reducible first | exact HB.out | apply lA | apply lN | apply lD) | exact HB.out)⟩⟩
            ·rw [if_neg c17] at H
             exact absurd H (by simp)
           ·rw [if_neg c16] at H
            exact absurd H (by simp)
          ·rw [if_neg c15] at H
           exact absurd H (by simp)
        ·rw [if_neg c10] at H
         exact absurd H (by simp)
      ·rw [if_neg c6] at H
       exact absurd H (by simp)
     ·rw [if_neg c4] at H
      exact absurd H (by simp)
    ·rw [if_neg c3] at H
     have c3b0 : decide (x6_1 < (a0.size : Int)) = false := decide_eq_false c3
     clear c3
     simp only [Option.some.injEq, Prod.mk.injEq] at H
     obtain ⟨rfl, rfl, rfl⟩ := H
     go_wp2
     repeat (go_quiet (fail); try go_wp2)
     (try rw [Exit.noGoto_ret])
     go_ret3
     exact ⟨_, by first | rfl | (simp [errW_none, errW_some] <;> rfl) | (simp [*, errW_none, errW_some] <;> rfl), by (with_reducible repeat (first | apply Kd.R_alloc | apply Kd.R_drewN | apply Kd.R_drew)); exact HO_5.out, by repeat (first | (with_reducible first | exact HB.out | apply lA | apply lN | apply lD) | exact HB.out)⟩
end Go.Proofs.Ytdelccahgchadaa.P
end
section
namespace Go.Proofs.Ytdelccahgchadaa.P
open Go.RowKit Go.Proofs.YtdelccahgchadaaW.PrintWords Go.Proofs.YtdelccahgchadaaW.PrintLast Go.Proofs.YtdelccahgchadaaW.PrintMore
attribute [local go_sem] max2_int min2_int max_two min_two max_three min_three max_four min_four   
set_option linter.unusedVariables false
set_option linter.unusedSimpArgs false
def tree_is.f (k : Nat) (a0 : ByteArray) (a1 : Int) : Option (Bool) := (lex_Lex.f k a0).bind fun bt157 => (if bt157.2.2 = 0 then (if (bt157.1.length : Int) = 1 then (if 0 < (bt157.1.length : Int) then (if ((rd_T71 bt157.1 0).f1).toList = a0.toList then (some (((rd_T71 bt157.1 0).f0) == a1)) else (some false)) else (none)) else (some false)) else (some false))
theorem tree_is.mono : ∀ a0 a1 k, LeO (tree_is.f k a0 a1) (tree_is.f (k + 1) a0 a1) := by
 intro a0 a1 k
 unfold tree_is.f
 repeat' first
   | (with_reducible exact lex_Lex.mono _ _)
   | (with_reducible exact LeO.refl _)
   | (with_reducible exact LeO.none _)
   | (with_reducible refine LeO.ite ?_ ?_)
   | (with_reducible refine LeO.bind ?_ (fun _ => ?_))
   | exact lex_Lex.mono _ _
   | exact LeO.none _
   | refine LeO.ite ?_ ?_
   | refine LeO.bind ?_ (fun _ => ?_)
set_option maxHeartbeats 8000000 in
set_option maxRecDepth 100000 in
theorem tree_is.calls (k : Nat) (a0 : ByteArray) (a1 : Int) (r : Bool) (w : World) (h : tree_is.f k a0 a1 = some r) :
  Calls Try.prog 58 #[.string a0, .int .i64 a1] w fun e w' => e = .returned (.bool r) ∧ Below w.heap.size w w' := by
 have HB := am (Below.refl w.heap.size w)
 have H : ((lex_Lex.f k a0).bind fun bt157 => (if bt157.2.2 = 0 then (if (bt157.1.length : Int) = 1 then (if 0 < (bt157.1.length : Int) then (if ((rd_T71 bt157.1 0).f1).toList = a0.toList then (some (((rd_T71 bt157.1 0).f0) == a1)) else (some false)) else (none)) else (some false)) else (some false))) = some r := h
 clear h
 replace H := Option.bind_eq_some_iff.mp H
 obtain ⟨⟨t157, t158, t159⟩, A30, H⟩ := H
 replace H : (if t159 = 0 then (if (t157.length : Int) = 1 then (if 0 < (t157.length : Int) then (if ((rd_T71 t157 0).f1).toList = a0.toList then (some (((rd_T71 t157 0).f0) == a1)) else (some false)) else (none)) else (some false)) else (some false)) = some r := H
 have A3 := am A30
 clear A30
 by_cases c4 : t159 = 0
 ·rw [if_pos c4] at H
  have c4b0 : (t159 == 0) = true := beq_iff_eq.mpr c4
  have c4b1 : (t159 != 0) = false := bne_eq_false_iff_eq.mpr c4
  clear c4
  by_cases c5 : (t157.length : Int) = 1
  ·rw [if_pos c5] at H
   have c5b0 : ((t157.length : Int) == 1) = true := beq_iff_eq.mpr c5
   have c5b1 : ((t157.length : Int) != 1) = false := bne_eq_false_iff_eq.mpr c5
   clear c5
   by_cases c6 : 0 < (t157.length : Int)
   ·rw [if_pos c6] at H
    have c6b0 : decide (0 < (t157.length : Int)) = true := decide_eq_true c6
    have c6b1 : decide (0 < t157.length) = true := decide_eq_true (by omega)
    clear c6
    by_cases c7 : ((rd_T71 t157 0).f1).toList = a0.toList
    ·rw [if_pos c7] at H
     have c7b0 : (((rd_T71 t157 0).f1).toList == a0.toList) = true := beq_iff_eq.mpr c7
     have c7b1 : (((rd_T71 t157 0).f1).toList != a0.toList) = false := bne_eq_false_iff_eq.mpr c7
     clear c7
     obtain rfl := Option.some.inj H
     go_enter Try.func58, Try.ntmps58
     go_wp2_with (first | ((with_reducible refine gate_callee (f := 49) rfl ?_); refine goesL_ (some 10) rfl rfl Try.func49 (by kernel_rfl) rfl #[.string a0] rfl (by (try simp only [List.map_toArray, List.map_cons, List.map_nil]); first | done | rfl | (simp only [List.length_drop, List.length_take]; rfl)) ?_; (with_reducible refine (lex_Lex.calls k a0 t157 t158 t159 _ A3.out).mono ?_); rintro e w8 ⟨v160, rfl, ho0, hb⟩; refine ⟨_, rfl, ?_⟩; have n0_ := am (Kd.R_lower ho0 (below_size (by repeat (first | (with_reducible first | exact HB.out | apply lA | apply lN | apply lD) | exact HB.out)))); have n1_ := am (below_step (by repeat (first | (with_reducible first | exact HB.out | apply lA | apply lN | apply lD) | exact HB.out)) hb); clear HB; have HO161 := n0_; have HB := n1_; clear n0_ n1_; (try clear hb); (try clear hb2); (try clear hk); (try clear hi); (try clear ho0); obtain ⟨Ao9, co9, eo9⟩ := Kd.R_slice HO161.out; subst eo9; have p162 : 0 ≤ (0 : Int) := (by omega); have q162 : 0 < (t157.length : Int) := of_decide_eq_true (by first | (with_reducible assumption) | assumption); obtain ⟨ad162, e162, hx162_0, hx162_1, hx162_2⟩ := at_T71 (Kd.R_reads' HO161.out).2.2 0 p162 q162; cases e162; have qi162 : (0 < t157.length) = True := eq_true (by omega); (try rw [show ((0 : Int)).toNat = 0 from rfl] at hx162_0); (try rw [show 0 * 3 = 0 from rfl] at hx162_0); (try rw [Addr.add_zero'] at hx162_0); (try rw [show ((0 : Int)).toNat = 0 from rfl] at hx162_1); (try rw [show 0 * 3 = 0 from rfl] at hx162_1); (try rw [Addr.add_zero'] at hx162_1); (try rw [show ((0 : Int)).toNat = 0 from rfl] at hx162_2); (try rw [show 0 * 3 = 0 from rfl] at hx162_2); (try rw [Addr.add_zero'] at hx162_2); replace p162 := eq_true p162; replace q162 := eq_true q162; have p163 : 0 ≤ (0 : Int) := (by omega); have q163 : 0 < (t157.length : Int) := of_decide_eq_true (by first | (with_reducible assumption) | assumption); obtain ⟨ad163, e163, hx163_0, hx163_1, hx163_2⟩ := at_T71 (Kd.R_reads' HO161.out).2.2 0 p163 q163; obtain rfl : ad162 = ad163 := (by injection e163); have qi163 : (0 < t157.length) = True := eq_true (by omega); (try rw [show ((0 : Int)).toNat = 0 from rfl] at hx163_0); (try rw [show 0 * 3 = 0 from rfl] at hx163_0); (try rw [Addr.add_zero'] at hx163_0); (try rw [show ((0 : Int)).toNat = 0 from rfl] at hx163_1); (try rw [show 0 * 3 = 0 from rfl] at hx163_1); (try rw [Addr.add_zero'] at hx163_1); (try rw [show ((0 : Int)).toNat = 0 from rfl] at hx163_2); (try rw [show 0 * 3 = 0 from rfl] at hx163_2); (try rw [Addr.add_zero'] at hx163_2); replace p163 := eq_true p163; replace q163 := eq_true q163))
     go_ret
     exact ⟨by first | rfl | (simp [errW_none, errW_some] <;> rfl) | (simp [*, errW_none, errW_some] <;> rfl), by repeat (first | (with_reducible first | exact HB.out | apply lA | apply lN | apply lD) | exact HB.out)⟩
    ·rw [if_neg c7] at H
     have c7b0 : (((rd_T71 t157 0).f1).toList == a0.toList) = false := beq_eq_false_iff_ne.mpr c7
     have c7b1 : (((rd_T71 t157 0).f1).toList != a0.toList) = true := bne_iff_ne.mpr c7
     obtain rfl := Option.some.inj H
     go_enter Try.func58, Try.ntmps58
     go_wp2_with (first | ((with_reducible refine gate_callee (f := 49) rfl ?_); refine goesL_ (some 10) rfl rfl Try.func49 (by kernel_rfl) rfl #[.string a0] rfl (by (try simp only [List.map_toArray, List.map_cons, List.map_nil]); first | done | rfl | (simp only [List.length_drop, List.length_take]; rfl)) ?_; (with_reducible refine (lex_Lex.calls k a0 t157 t158 t159 _ A3.out).mono ?_); rintro e w10 ⟨v160, rfl, ho0, hb⟩; refine ⟨_, rfl, ?_⟩; have n0_ := am (Kd.R_lower ho0 (below_size (by repeat (first | (with_reducible first | exact HB.out | apply lA | apply lN | apply lD) | exact HB.out)))); have n1_ := am (below_step (by repeat (first | (with_reducible first | exact HB.out | apply lA | apply lN | apply lD) | exact HB.out)) hb); clear HB; have HO161 := n0_; have HB := n1_; clear n0_ n1_; (try clear hb); (try clear hb2); (try clear hk); (try clear hi); (try clear ho0); obtain ⟨Ao11, co11, eo11⟩ := Kd.R_slice HO161.out; subst eo11; have p162 : 0 ≤ (0 : Int) := (by omega); have q162 : 0 < (t157.length : Int) := of_decide_eq_true (by first | (with_reducible assumption) | assumption); obtain ⟨ad162, e162, hx162_0, hx162_1, hx162_2⟩ := at_T71 (Kd.R_reads' HO161.out).2.2 0 p162 q162; cases e162; have qi162 : (0 < t157.length) = True := eq_true (by omega); (try rw [show ((0 : Int)).toNat = 0 from rfl] at hx162_0); (try rw [show 0 * 3 = 0 from rfl] at hx162_0); (try rw [Addr.add_zero'] at hx162_0); (try rw [show ((0 : Int)).toNat = 0 from rfl] at hx162_1); (try rw [show 0 * 3 = 0 from rfl] at hx162_1); (try rw [Addr.add_zero'] at hx162_1); (try rw [show ((0 : Int)).toNat = 0 from rfl] at hx162_2); (try rw [show 0 * 3 = 0 from rfl] at hx162_2); (try rw [Addr.add_zero'] at hx162_2); replace p162 := eq_true p162; replace q162 := eq_true q162))
     go_ret
     exact ⟨by first | rfl | (simp [errW_none, errW_some] <;> rfl) | (simp [*, errW_none, errW_some] <;> rfl), by repeat (first | (with_reducible first | exact HB.out | apply lA | apply lN | apply lD) | exact HB.out)⟩
   ·rw [if_neg c6] at H
    exact absurd H (by simp)
  ·rw [if_neg c5] at H
   have c5b0 : ((t157.length : Int) == 1) = false := beq_eq_false_iff_ne.mpr c5
   have c5b1 : ((t157.length : Int) != 1) = true := bne_iff_ne.mpr c5
   obtain rfl := Option.some.inj H
   go_enter Try.func58, Try.ntmps58
   go_wp2_with (first | ((with_reducible refine gate_callee (f := 49) rfl ?_); refine goesL_ (some 10) rfl rfl Try.func49 (by kernel_rfl) rfl #[.string a0] rfl (by (try simp only [List.map_toArray, List.map_cons, List.map_nil]); first | done | rfl | (simp only [List.length_drop, List.length_take]; rfl)) ?_; (with_reducible refine (lex_Lex.calls k a0 t157 t158 t159 _ A3.out).mono ?_); rintro e w12 ⟨v160, rfl, ho0, hb⟩; refine ⟨_, rfl, ?_⟩; have n0_ := am (Kd.R_lower ho0 (below_size (by repeat (first | (with_reducible first | exact HB.out | apply lA | apply lN | apply lD) | exact HB.out)))); have n1_ := am (below_step (by repeat (first | (with_reducible first | exact HB.out | apply lA | apply lN | apply lD) | exact HB.out)) hb); clear HB; have HO161 := n0_; have HB := n1_; clear n0_ n1_; (try clear hb); (try clear hb2); (try clear hk); (try clear hi); (try clear ho0); obtain ⟨Ao13, co13, eo13⟩ := Kd.R_slice HO161.out; subst eo13))
   go_ret
   exact ⟨by first | rfl | (simp [errW_none, errW_some] <;> rfl) | (simp [*, errW_none, errW_some] <;> rfl), by repeat (first | (with_reducible first | exact HB.out | apply lA | apply lN | apply lD) | exact HB.out)⟩
 ·rw [if_neg c4] at H
  have c4b0 : (t159 == 0) = false := beq_eq_false_iff_ne.mpr c4
  have c4b1 : (t159 != 0) = true := bne_iff_ne.mpr c4
  obtain rfl := Option.some.inj H
  go_enter Try.func58, Try.ntmps58
  go_wp2_with (first | ((with_reducible refine gate_callee (f := 49) rfl ?_); refine goesL_ (some 10) rfl rfl Try.func49 (by kernel_rfl) rfl #[.string a0] rfl (by (try simp only [List.map_toArray, List.map_cons, List.map_nil]); first | done | rfl | (simp only [List.length_drop, List.length_take]; rfl)) ?_; (with_reducible refine (lex_Lex.calls k a0 t157 t158 t159 _ A3.out).mono ?_); rintro e w14 ⟨v160, rfl, ho0, hb⟩; refine ⟨_, rfl, ?_⟩; have n0_ := am (Kd.R_lower ho0 (below_size (by repeat (first | (with_reducible first | exact HB.out | apply lA | apply lN | apply lD) | exact HB.out)))); have n1_ := am (below_step (by repeat (first | (with_reducible first | exact HB.out | apply lA | apply lN | apply lD) | exact HB.out)) hb); clear HB; have HO161 := n0_; have HB := n1_; clear n0_ n1_; (try clear hb); (try clear hb2); (try clear hk); (try clear hi); (try clear ho0)))
  go_ret
  exact ⟨by first | rfl | (simp [errW_none, errW_some] <;> rfl) | (simp [*, errW_none, errW_some] <;> rfl), by repeat (first | (with_reducible first | exact HB.out | apply lA | apply lN | apply lD) | exact HB.out)⟩
def tree_verb.f (k : Nat) (a0 : ByteArray) : Option (Bool) := if a0.toList = ([123] : List UInt8) then (some true) else ((tree_is.f k a0 4).bind fun t164 => (if t164 = true then (some true) else ((tree_is.f k a0 3).bind fun t165 => (some t165))))
theorem tree_verb.mono : ∀ a0 k, LeO (tree_verb.f k a0) (tree_verb.f (k + 1) a0) := by
 intro a0 k
 unfold tree_verb.f
 repeat' first
   | (with_reducible exact tree_is.mono _ _ _)
   | (with_reducible exact LeO.refl _)
   | (with_reducible exact LeO.none _)
   | (with_reducible refine LeO.ite ?_ ?_)
   | (with_reducible refine LeO.bind ?_ (fun _ => ?_))
   | exact tree_is.mono _ _ _
   | exact LeO.none _
   | refine LeO.ite ?_ ?_
   | refine LeO.bind ?_ (fun _ => ?_)
set_option maxHeartbeats 8000000 in
set_option maxRecDepth 100000 in
theorem tree_verb.calls (k : Nat) (a0 : ByteArray) (r : Bool) (w : World) (h : tree_verb.f k a0 = some r) :
  Calls Try.prog 59 #[.string a0] w fun e w' => e = .returned (.bool r) ∧ Below w.heap.size w w' := by
 have HB := am (Below.refl w.heap.size w)
 have H : (if a0.toList = ([123] : List UInt8) then (some true) else ((tree_is.f k a0 4).bind fun t164 => (if t164 = true then (some true) else ((tree_is.f k a0 3).bind fun t165 => (some t165))))) = some r := h
 clear h
 by_cases c2 : a0.toList = ([123] : List UInt8)
 ·rw [if_pos c2] at H
  have c2b0 : (a0.toList == ([123] : List UInt8)) = true := beq_iff_eq.mpr c2
  have c2b1 : (a0.toList != ([123] : List UInt8)) = false := bne_eq_false_iff_eq.mpr c2
  clear c2
  obtain rfl := Option.some.inj H
  go_enter Try.func59, Try.ntmps59
  go_wp2
  go_ret
  exact ⟨by first | rfl | (simp [errW_none, errW_some] <;> rfl) | (simp [*, errW_none, errW_some] <;> rfl), by repeat (first | (with_reducible first | exact HB.out | apply lA | apply lN | apply lD) | exact HB.out)⟩
 ·rw [if_neg c2] at H
  have c2b0 : (a0.toList == ([123] : List UInt8)) = false := beq_eq_false_iff_ne.mpr c2
  have c2b1 : (a0.toList != ([123] : List UInt8)) = true := bne_iff_ne.mpr c2
  replace H := Option.bind_eq_some_iff.mp H
  obtain ⟨t164, A30, H⟩ := H
  replace H : (if t164 = true then (some true) else ((tree_is.f k a0 3).bind fun t165 => (some t165))) = some r := H
  have A3 := am A30
  clear A30
  by_cases c4 : t164 = true
  ·subst c4
   have H1 : (some true) = some r := by rw [if_pos rfl] at H; exact H
   clear H
   have H := H1
   clear H1
   obtain rfl := Option.some.inj H
   go_enter Try.func59, Try.ntmps59
   go_wp2_with (first | (go_at_call 58; (with_reducible refine (tree_is.calls k a0 4 true _ A3.out).mono ?_); rintro e w5 ⟨rfl, hb⟩; have n0_ := am (below_step (by repeat (first | (with_reducible first | exact HB.out | apply lA | apply lN | apply lD) | exact HB.out)) hb); clear HB; have HB := n0_; clear n0_; (try clear hb); (try clear hb2); (try clear hk); (try clear hi)))
   go_ret
   exact ⟨by first | rfl | (simp [errW_none, errW_some] <;> rfl) | (simp [*, errW_none, errW_some] <;> rfl), by repeat (first | (with_reducible first | exact HB.out | apply lA | apply lN | apply lD) | exact HB.out)⟩
  ·replace c4 := Bool.eq_false_iff.mpr c4
   subst c4
   have H1 : ((tree_is.f k a0 3).bind fun t165 => (some t165)) = some r := by rw [if_neg (show ¬ (false = true) by decide)] at H; exact H
   clear H
   have H := H1
   clear H1
   replace H := Option.bind_eq_some_iff.mp H
   obtain ⟨t165, A60, H⟩ := H
   replace H : (some t165) = some r := H
   have A6 := am A60
   clear A60
   obtain rfl := Option.some.inj H
   go_enter Try.func59, Try.ntmps59
   go_wp2_with (first | (go_at_call 58; (with_reducible refine (tree_is.calls k a0 4 false _ A3.out).mono ?_); rintro e w7 ⟨rfl, hb⟩; have n0_ := am (below_step (by repeat (first | (with_reducible first | exact HB.out | apply lA | apply lN | apply lD) | exact HB.out)) hb); clear HB; have HB := n0_; clear n0_; (try clear hb); (try clear hb2); (try clear hk); (try clear hi)) | (go_at_call 58; (with_reducible refine (tree_is.calls k a0 3 t165 _ A6.out).mono ?_); rintro e w8 ⟨rfl, hb⟩; have n0_ := am (below_step (by repeat (first | (with_reducible first | exact HB.out | apply lA | apply lN | apply lD) | exact HB.out)) hb); clear HB; have HB := n0_; clear n0_; (try clear hb); (try clear hb2); (try clear hk); (try clear hi)))
   go_ret
   exact ⟨by first | rfl | (simp [errW_none, errW_some] <;> rfl) | (simp [*, errW_none, errW_some] <;> rfl), by repeat (first | (with_reducible first | exact HB.out | apply lA | apply lN | apply lD) | exact HB.out)⟩
def tree_adv.f (a0 : ByteArray) (a1 : ByteArray) : Option (Bool) := if a0.toList = ([] : List UInt8) then (some true) else (if (a0.size : Int) = 1 then ((strings_Contains.f a1 a0).bind fun t166 => (some t166)) else (some false))
set_option maxHeartbeats 8000000 in
set_option maxRecDepth 100000 in
theorem tree_adv.calls (a0 : ByteArray) (a1 : ByteArray) (r : Bool) (w : World) (h : tree_adv.f a0 a1 = some r) :
  Calls Try.prog 60 #[.string a0, .string a1] w fun e w' => e = .returned (.bool r) ∧ Drawn0 w w' := by
 have H : (if a0.toList = ([] : List UInt8) then (some true) else (if (a0.size : Int) = 1 then ((strings_Contains.f a1 a0).bind fun t166 => (some t166)) else (some false))) = some r := h
 clear h
 by_cases c3 : a0.toList = ([] : List UInt8)
 ·rw [if_pos c3] at H
  have c3b0 : (a0.toList == ([] : List UInt8)) = true := beq_iff_eq.mpr c3
  have c3b1 : (a0.toList != ([] : List UInt8)) = false := bne_eq_false_iff_eq.mpr c3
  clear c3
  obtain rfl := Option.some.inj H
  go_enter Try.func60, Try.ntmps60
  go_wp2
  go_ret
  exact ⟨by first | rfl | (simp; done) | (simp [*]; done), by repeat (first | exact Drawn0.refl _ | apply Drawn0.step)⟩
 ·rw [if_neg c3] at H
  have c3b0 : (a0.toList == ([] : List UInt8)) = false := beq_eq_false_iff_ne.mpr c3
  have c3b1 : (a0.toList != ([] : List UInt8)) = true := bne_iff_ne.mpr c3
  by_cases c4 : (a0.size : Int) = 1
  ·rw [if_pos c4] at H
   have c4b0 : ((a0.size : Int) == 1) = true := beq_iff_eq.mpr c4
   have c4b1 : ((a0.size : Int) != 1) = false := bne_eq_false_iff_eq.mpr c4
   clear c4
   replace H := Option.bind_eq_some_iff.mp H
   obtain ⟨t166, A50, H⟩ := H
   replace H : (some t166) = some r := H
   have A5 := am A50
   clear A50
   obtain rfl := Option.some.inj H
   go_enter Try.func60, Try.ntmps60
   go_wp2_with (first | (go_at_call 83; (with_reducible refine (strings_Contains.calls a1 a0 t166 _ A5.out).mono ?_); rintro e w' ⟨rfl, ⟨nd, rfl⟩⟩))
   go_ret
   exact ⟨by first | rfl | (simp; done) | (simp [*]; done), by repeat (first | exact Drawn0.refl _ | apply Drawn0.step)⟩
  ·rw [if_neg c4] at H
   have c4b0 : ((a0.size : Int) == 1) = false := beq_eq_false_iff_ne.mpr c4
   have c4b1 : ((a0.size : Int) != 1) = true := bne_iff_ne.mpr c4
   obtain rfl := Option.some.inj H
   go_enter Try.func60, Try.ntmps60
   go_wp2
   go_ret
   exact ⟨by first | rfl | (simp; done) | (simp [*]; done), by repeat (first | exact Drawn0.refl _ | apply Drawn0.step)⟩
end Go.Proofs.Ytdelccahgchadaa.P
end
section
namespace Go.Proofs.Ytdelccahgchadaa.P
open Go.RowKit Go.Proofs.YtdelccahgchadaaW.PrintWords Go.Proofs.YtdelccahgchadaaW.PrintLast Go.Proofs.YtdelccahgchadaaW.PrintMore
attribute [local go_sem] max2_int min2_int max_two min_two max_three min_three max_four min_four   
set_option linter.unusedVariables false
set_option linter.unusedSimpArgs false
mutual
def tree_may.j0 : Nat → Bool → Bool → Int → ByteArray → ByteArray → ByteArray → List ByteArray → Option (Bool)
 | 0, _, _, _, _, _, _, _ => none
 | k + 1, x3, x4, x168000, x168001, x168002, x168003, x168004 => if x168000 = 1 then (if x4 = true then (if x168003.toList = ([] : List UInt8) then (if x3 = true then (some false) else (if (x168004.length : Int) ≤ 100 then ((slices_ContainsFunc_string_string.f k x168004).bind fun t168 => (some (!t168))) else (some false))) else (some false)) else (some false)) else (if x168000 = 2 then (tree_may.j1 k x3 x4 x168000 (x168000 == 2) x168000 x168001 x168002 x168003 x168004) else (if x168000 = 5 then (tree_may.j1 k x3 x4 x168000 (x168000 == 5) x168000 x168001 x168002 x168003 x168004) else (tree_may.j1 k x3 x4 x168000 (x168000 == 6) x168000 x168001 x168002 x168003 x168004)))
def tree_may.j1 : Nat → Bool → Bool → Int → Bool → Int → ByteArray → ByteArray → ByteArray → List ByteArray → Option (Bool)
 | 0, _, _, _, _, _, _, _, _, _ => none
 | k + 1, x3, x4, x18, x43, x168000, x168001, x168002, x168003, x168004 => if x43 = true then (if x4 = true then (if x3 = true then ((tree_is.f k x168003 2).bind fun t169 => (some t169)) else (some false)) else (some false)) else (if x18 = 7 then (if x4 = true then (if x3 = true then ((tree_is.f k x168003 3).bind fun t170 => (some t170)) else (some false)) else (some false)) else (if x18 = 8 then (if x4 = true then (if x3 = true then (some (x168003.toList == ([] : List UInt8))) else (some false)) else (some false)) else (if x18 = 3 then (if x3 = true then (if x168003.toList = ([] : List UInt8) then ((tree_verb.f k x168001).bind fun t171 => (if t171 = true then ((tree_adv.f x168002 (⟨#[39, 47, 92, 96]⟩ : ByteArray)).bind fun t172 => (some t172)) else (some false))) else (some false)) else (some false)) else (if x18 = 4 then (if x3 = true then (if x168003.toList = ([] : List UInt8) then ((tree_verb.f k x168001).bind fun t173 => (if t173 = true then ((tree_adv.f x168002 (⟨#[39, 46]⟩ : ByteArray)).bind fun t174 => (some t174)) else (some false))) else (some false)) else (some false)) else (some false)))))
end
def tree_may.f (k : Nat) (a0_0 : Int) (a0_1 : ByteArray) (a0_2 : ByteArray) (a0_3 : ByteArray) (l0_4 : List ByteArray) : Option (Bool) := if a0_1.toList = ([] : List UInt8) then (tree_may.j0 k ((l0_4.length : Int) == 0) (a0_2.toList == ([] : List UInt8)) a0_0 a0_1 a0_2 a0_3 l0_4) else (tree_may.j0 k ((l0_4.length : Int) == 0) false a0_0 a0_1 a0_2 a0_3 l0_4)
theorem tree_may.mono_l : ∀ k, (∀ y0 y1 y2 y3 y4 y5 y6, LeO (tree_may.j0 k y0 y1 y2 y3 y4 y5 y6) (tree_may.j0 (k + 1) y0 y1 y2 y3 y4 y5 y6)) ∧ (∀ y0 y1 y2 y3 y4 y5 y6 y7 y8, LeO (tree_may.j1 k y0 y1 y2 y3 y4 y5 y6 y7 y8) (tree_may.j1 (k + 1) y0 y1 y2 y3 y4 y5 y6 y7 y8))
 | 0 => ⟨fun _ _ _ _ _ _ _ r h => by simp [tree_may.j0] at h, fun _ _ _ _ _ _ _ _ _ r h => by simp [tree_may.j1] at h⟩
 | k + 1 => by
  obtain ⟨ih0, ih1⟩ := tree_may.mono_l k
  refine ⟨?_, ?_⟩
  ·intro y0 y1 y2 y3 y4 y5 y6
   unfold tree_may.j0
   repeat' first
   | (with_reducible exact ih0 _ _ _ _ _ _ _)
   | (with_reducible exact ih1 _ _ _ _ _ _ _ _ _)
   | (with_reducible exact slices_ContainsFunc_string_string.mono _ _)
   | (with_reducible exact tree_is.mono _ _ _)
   | (with_reducible exact tree_verb.mono _ _)
   | (with_reducible exact LeO.refl _)
   | (with_reducible exact LeO.none _)
   | (with_reducible refine LeO.ite ?_ ?_)
   | (with_reducible refine LeO.bind ?_ (fun _ => ?_))
   | exact ih0 _ _ _ _ _ _ _
   | exact ih1 _ _ _ _ _ _ _ _ _
   | exact slices_ContainsFunc_string_string.mono _ _
   | exact tree_is.mono _ _ _
   | exact tree_verb.mono _ _
   | exact LeO.none _
   | refine LeO.ite ?_ ?_
   | refine LeO.bind ?_ (fun _ => ?_)
  ·intro y0 y1 y2 y3 y4 y5 y6 y7 y8
   unfold tree_may.j1
   repeat' first
   | (with_reducible exact ih0 _ _ _ _ _ _ _)
   | (with_reducible exact ih1 _ _ _ _ _ _ _ _ _)
   | (with_reducible exact slices_ContainsFunc_string_string.mono _ _)
   | (with_reducible exact tree_is.mono _ _ _)
   | (with_reducible exact tree_verb.mono _ _)
   | (with_reducible exact LeO.refl _)
   | (with_reducible exact LeO.none _)
   | (with_reducible refine LeO.ite ?_ ?_)
   | (with_reducible refine LeO.bind ?_ (fun _ => ?_))
   | exact ih0 _ _ _ _ _ _ _
   | exact ih1 _ _ _ _ _ _ _ _ _
   | exact slices_ContainsFunc_string_string.mono _ _
   | exact tree_is.mono _ _ _
   | exact tree_verb.mono _ _
   | exact LeO.none _
   | refine LeO.ite ?_ ?_
   | refine LeO.bind ?_ (fun _ => ?_)
theorem tree_may.mono : ∀ a0 a1 a2 a3 a4 k, LeO (tree_may.f k a0 a1 a2 a3 a4) (tree_may.f (k + 1) a0 a1 a2 a3 a4) := by
 intro a0 a1 a2 a3 a4 k
 obtain ⟨ih0, ih1⟩ := tree_may.mono_l k
 unfold tree_may.f
 repeat' first
   | (with_reducible exact ih0 _ _ _ _ _ _ _)
   | (with_reducible exact ih1 _ _ _ _ _ _ _ _ _)
   | (with_reducible exact slices_ContainsFunc_string_string.mono _ _)
   | (with_reducible exact tree_is.mono _ _ _)
   | (with_reducible exact tree_verb.mono _ _)
   | (with_reducible exact LeO.refl _)
   | (with_reducible exact LeO.none _)
   | (with_reducible refine LeO.ite ?_ ?_)
   | (with_reducible refine LeO.bind ?_ (fun _ => ?_))
   | exact ih0 _ _ _ _ _ _ _
   | exact ih1 _ _ _ _ _ _ _ _ _
   | exact slices_ContainsFunc_string_string.mono _ _
   | exact tree_is.mono _ _ _
   | exact tree_verb.mono _ _
   | exact LeO.none _
   | refine LeO.ite ?_ ?_
   | refine LeO.bind ?_ (fun _ => ?_)
set_option maxHeartbeats 8000000 in
set_option maxRecDepth 100000 in
theorem tree_may.calls (k : Nat) (a0_0 : Int) (a0_1 : ByteArray) (a0_2 : ByteArray) (a0_3 : ByteArray) (A0_4 : Option Addr) (c0_4 : Nat) (l0_4 : List ByteArray) (r : Bool) (w : World) (hr0_4 : Kd.C Kd.string w A0_4 l0_4.length l0_4) (hc0_4 : l0_4.length ≤ c0_4) (h : tree_may.f k a0_0 a0_1 a0_2 a0_3 l0_4 = some r) :
  Calls Try.prog 42 #[.agg #[.int .i64 a0_0, .string a0_1, .string a0_2, .string a0_3, .slice A0_4 l0_4.length c0_4]] w fun e w' => e = .returned (.bool r) ∧ Below w.heap.size w w' := by
 have hu25 := Try.underlying25
 have HR0_4 := am hr0_4
 have HC0_4 := am hc0_4
 clear hr0_4 hc0_4
 have HB := am (Below.refl w.heap.size w)
 have H : (if a0_1.toList = ([] : List UInt8) then (tree_may.j0 k ((l0_4.length : Int) == 0) (a0_2.toList == ([] : List UInt8)) a0_0 a0_1 a0_2 a0_3 l0_4) else (tree_may.j0 k ((l0_4.length : Int) == 0) false a0_0 a0_1 a0_2 a0_3 l0_4)) = some r := h
 clear h
 have HC2 := am H
 clear H
 go_enter Try.func42, Try.ntmps42
 go_upto_region 2 with (first | ((with_reducible refine gate_dst (N := 1) rfl ?_); (try (refine gate_guard (by rfl) ?_; dsimp only)); refine box_event ?hg (N := 1) ?hd (cs := #[.int .i64 a0_0, .string a0_1, .string a0_2, .string a0_3, .slice A0_4 l0_4.length c0_4]) (t := 25) ?hr ?_; (case hd => rfl); (case hg => rfl); (case hr => first | (go_simp; done) | (go_simp; rfl)); intro gb167 hg w3 hbox hb; have n0_ := am (below_step (by repeat (first | (with_reducible first | exact HB.out | apply lA | apply lN | apply lD) | exact HB.out)) hb); have n1_ := am (hbox); have n2_ := am ((by rw [hg]; exact (below_size (by repeat (first | (with_reducible first | exact HB.out | apply lA | apply lN | apply lD) | exact HB.out))) : w.heap.size ≤ gb167)); have n3_ := n2_; clear HB; have HB := n0_; have BK167 := n1_; have GW167 := n2_; have GE167 := n3_; clear n0_ n1_ n2_ n3_; clear hb hbox hg; have hcz4_0 : w3.cell? ⟨gb167, 0, none⟩ = some (.int .i64 a0_0) := (blk_cell BK167.out 0).trans rfl; have hcz4_1 : w3.cell? ⟨gb167, 1, none⟩ = some (.string a0_1) := (blk_cell BK167.out 1).trans rfl; have hcz4_2 : w3.cell? ⟨gb167, 2, none⟩ = some (.string a0_2) := (blk_cell BK167.out 2).trans rfl; have hcz4_3 : w3.cell? ⟨gb167, 3, none⟩ = some (.string a0_3) := (blk_cell BK167.out 3).trans rfl; have hcz4_4 : w3.cell? ⟨gb167, 4, none⟩ = some (.slice A0_4 l0_4.length c0_4) := (blk_cell BK167.out 4).trans rfl; have hfz4_0 := blk_frozen BK167.out 0; have hfz4_1 := blk_frozen BK167.out 1; have hfz4_2 := blk_frozen BK167.out 2; have hfz4_3 := blk_frozen BK167.out 3; have hfz4_4 := blk_frozen BK167.out 4))
 (try simp only [Act.put, zT, z0, zS])
 go_cut [4] (fun v4 wc => ∃ (kq : Nat) (x4_1 : Bool), v4 = .bool x4_1 ∧ Aside0 (tree_may.j0 kq ((l0_4.length : Int) == 0) x4_1 a0_0 a0_1 a0_2 a0_3 l0_4 = some r) ∧ Aside0 (kq ≤ k) ∧ Aside0 (wc.heap[gb167]? = some (.cells #[.int .i64 a0_0, .string a0_1, .string a0_2, .string a0_3, (.slice A0_4 l0_4.length c0_4)] 25 (0, 0))) ∧ Aside0 (Below w.heap.size w wc))
 case first =>
  have H := HC2.out
  clear HC2
  by_cases c5 : a0_1.toList = ([] : List UInt8)
  ·rw [if_pos c5] at H
   have c5b0 : (a0_1.toList == ([] : List UInt8)) = true := beq_iff_eq.mpr c5
   have c5b1 : (a0_1.toList != ([] : List UInt8)) = false := bne_eq_false_iff_eq.mpr c5
   clear c5
   (first | rw [c5b0] | (simp only [i64_w, i32_w]; rw [c5b0]) | skip)
   have H' := am H
   clear H
   have hcz6_0 : w3.cell? ⟨gb167, 0, none⟩ = some (.int .i64 a0_0) := (blk_cell BK167.out 0).trans rfl
   have hcz6_1 : w3.cell? ⟨gb167, 1, none⟩ = some (.string a0_1) := (blk_cell BK167.out 1).trans rfl
   have hcz6_2 : w3.cell? ⟨gb167, 2, none⟩ = some (.string a0_2) := (blk_cell BK167.out 2).trans rfl
   have hcz6_3 : w3.cell? ⟨gb167, 3, none⟩ = some (.string a0_3) := (blk_cell BK167.out 3).trans rfl
   have hcz6_4 : w3.cell? ⟨gb167, 4, none⟩ = some (.slice A0_4 l0_4.length c0_4) := (blk_cell BK167.out 4).trans rfl
   have hfz6_0 := blk_frozen BK167.out 0
   have hfz6_1 := blk_frozen BK167.out 1
   have hfz6_2 := blk_frozen BK167.out 2
   have hfz6_3 := blk_frozen BK167.out 3
   have hfz6_4 := blk_frozen BK167.out 4
   go_wp2
   go_meet
   case rel => exact ⟨_, ((a0_2.toList == ([] : List UInt8))), (by first | rfl | (simp; done) | (simp [*]; done)), H', ⟨by first | omega | exact Nat.le_refl _⟩, ⟨by (with_reducible repeat (first | refine bN ?_ _ | refine bD ?_ | refine bA ?_ _)); exact BK167.out⟩, ⟨by repeat (first | (with_reducible first | exact HB.out | apply lA | apply lN | apply lD | refine below_set ?_ GE167.out) | exact HB.out)⟩⟩
  ·rw [if_neg c5] at H
   have c5b0 : (a0_1.toList == ([] : List UInt8)) = false := beq_eq_false_iff_ne.mpr c5
   have c5b1 : (a0_1.toList != ([] : List UInt8)) = true := bne_iff_ne.mpr c5
   (first | rw [c5b0] | (simp only [i64_w, i32_w]; rw [c5b0]) | skip)
   have H' := am H
   clear H
   have hcz7_0 : w3.cell? ⟨gb167, 0, none⟩ = some (.int .i64 a0_0) := (blk_cell BK167.out 0).trans rfl
   have hcz7_1 : w3.cell? ⟨gb167, 1, none⟩ = some (.string a0_1) := (blk_cell BK167.out 1).trans rfl
   have hcz7_2 : w3.cell? ⟨gb167, 2, none⟩ = some (.string a0_2) := (blk_cell BK167.out 2).trans rfl
   have hcz7_3 : w3.cell? ⟨gb167, 3, none⟩ = some (.string a0_3) := (blk_cell BK167.out 3).trans rfl
   have hcz7_4 : w3.cell? ⟨gb167, 4, none⟩ = some (.slice A0_4 l0_4.length c0_4) := (blk_cell BK167.out 4).trans rfl
   have hfz7_0 := blk_frozen BK167.out 0
   have hfz7_1 := blk_frozen BK167.out 1
   have hfz7_2 := blk_frozen BK167.out 2
   have hfz7_3 := blk_frozen BK167.out 3
   have hfz7_4 := blk_frozen BK167.out 4
   go_wp2
   go_meet
   case rel => exact ⟨_, (false), (by first | rfl | (simp; done) | (simp [*]; done)), H', ⟨by first | omega | exact Nat.le_refl _⟩, ⟨by (with_reducible repeat (first | refine bN ?_ _ | refine bD ?_ | refine bA ?_ _)); exact BK167.out⟩, ⟨by repeat (first | (with_reducible first | exact HB.out | apply lA | apply lN | apply lD | refine below_set ?_ GE167.out) | exact HB.out)⟩⟩
 case rest =>
  clear HC2
  try clear p2
  try clear c4
  try clear c5
  try clear c5b0
  try clear c5b1
  try clear hcz4_0
  try clear hcz4_1
  try clear hcz4_2
  try clear hcz4_3
  try clear hcz4_4
  try clear hcz6_0
  try clear hcz6_1
  try clear hcz6_2
  try clear hcz6_3
  try clear hcz6_4
  try clear hcz7_0
  try clear hcz7_1
  try clear hcz7_2
  try clear hcz7_3
  try clear hcz7_4
  try clear hfz4_0
  try clear hfz4_1
  try clear hfz4_2
  try clear hfz4_3
  try clear hfz4_4
  try clear hfz6_0
  try clear hfz6_1
  try clear hfz6_2
  try clear hfz6_3
  try clear hfz6_4
  try clear hfz7_0
  try clear hfz7_1
  try clear hfz7_2
  try clear hfz7_3
  try clear hfz7_4
  obtain ⟨kq, x4_1, rfl, HA, HJ1, BK167, HB⟩ := hcut
  cases kq with
  | zero => exact absurd HA.out (by simp [tree_may.j0])
  | succ kj1 =>
   have H := HA.out
   clear HA
   simp only [tree_may.j0] at H
   by_cases c8 : a0_0 = 1
   ·rw [if_pos c8] at H
    have c8b0 : (a0_0 == 1) = true := beq_iff_eq.mpr c8
    have c8b1 : (a0_0 != 1) = false := bne_eq_false_iff_eq.mpr c8
    clear c8
    by_cases c9 : x4_1 = true
    ·subst c9
     have H1 : (if a0_3.toList = ([] : List UInt8) then (if ((l0_4.length : Int) == 0) = true then (some false) else (if (l0_4.length : Int) ≤ 100 then ((slices_ContainsFunc_string_string.f kj1 l0_4).bind fun t168 => (some (!t168))) else (some false))) else (some false)) = some r := by rw [if_pos rfl] at H; exact H
     clear H
     have H := H1
     clear H1
     by_cases c10 : a0_3.toList = ([] : List UInt8)
     ·rw [if_pos c10] at H
      have c10b0 : (a0_3.toList == ([] : List UInt8)) = true := beq_iff_eq.mpr c10
      have c10b1 : (a0_3.toList != ([] : List UInt8)) = false := bne_eq_false_iff_eq.mpr c10
      clear c10
      by_cases c11 : ((l0_4.length : Int) == 0) = true
      ·rw [if_pos c11] at H
       have c11b0 : ((l0_4.length : Int) == 0) = true := c11
       (try (have c11b1 : decide ((l0_4.length : Int) = 0) = true := by simpa using c11))
       (try (have c11b2 : ((l0_4.length : Int) == 0) = true := by simpa using c11))
       clear c11
       obtain rfl := Option.some.inj H
       have hcz12_0 : wc.cell? ⟨gb167, 0, none⟩ = some (.int .i64 a0_0) := (blk_cell BK167.out 0).trans rfl
       have hcz12_1 : wc.cell? ⟨gb167, 1, none⟩ = some (.string a0_1) := (blk_cell BK167.out 1).trans rfl
       have hcz12_2 : wc.cell? ⟨gb167, 2, none⟩ = some (.string a0_2) := (blk_cell BK167.out 2).trans rfl
       have hcz12_3 : wc.cell? ⟨gb167, 3, none⟩ = some (.string a0_3) := (blk_cell BK167.out 3).trans rfl
       have hcz12_4 : wc.cell? ⟨gb167, 4, none⟩ = some (.slice A0_4 l0_4.length c0_4) := (blk_cell BK167.out 4).trans rfl
       have hfz12_0 := blk_frozen BK167.out 0
       have hfz12_1 := blk_frozen BK167.out 1
       have hfz12_2 := blk_frozen BK167.out 2
       have hfz12_3 := blk_frozen BK167.out 3
       have hfz12_4 := blk_frozen BK167.out 4
       go_wp2
       go_ret
       exact ⟨by first | rfl | (simp [errW_none, errW_some] <;> rfl) | (simp [*, errW_none, errW_some] <;> rfl), by repeat (first | (with_reducible first | exact HB.out | apply lA | apply lN | apply lD | refine below_set ?_ GE167.out) | exact HB.out)⟩
      ·rw [if_neg c11] at H
       have c11b0 : ((l0_4.length : Int) == 0) = false := by simpa using c11
       (try (have c11b1 : decide ((l0_4.length : Int) = 0) = false := by simpa using c11))
       (try (have c11b2 : ((l0_4.length : Int) == 0) = false := by simpa using c11))
       (try (have c11b3 : ¬ ((l0_4.length : Int) = 0) := by simpa using c11))
       clear c11
       by_cases c13 : (l0_4.length : Int) ≤ 100
       ·rw [if_pos c13] at H
        have c13b0 : decide ((l0_4.length : Int) ≤ 100) = true := decide_eq_true c13
        have c13b1 : decide (l0_4.length ≤ 100) = true := decide_eq_true (by omega)
        clear c13
        replace H := Option.bind_eq_some_iff.mp H
        obtain ⟨t168, A140, H⟩ := H
        replace H : (some (!t168)) = some r := H
        have A14 := am A140
        clear A140
        obtain rfl := Option.some.inj H
        have hcz15_0 : wc.cell? ⟨gb167, 0, none⟩ = some (.int .i64 a0_0) := (blk_cell BK167.out 0).trans rfl
        have hcz15_1 : wc.cell? ⟨gb167, 1, none⟩ = some (.string a0_1) := (blk_cell BK167.out 1).trans rfl
        have hcz15_2 : wc.cell? ⟨gb167, 2, none⟩ = some (.string a0_2) := (blk_cell BK167.out 2).trans rfl
        have hcz15_3 : wc.cell? ⟨gb167, 3, none⟩ = some (.string a0_3) := (blk_cell BK167.out 3).trans rfl
        have hcz15_4 : wc.cell? ⟨gb167, 4, none⟩ = some (.slice A0_4 l0_4.length c0_4) := (blk_cell BK167.out 4).trans rfl
        have hfz15_0 := blk_frozen BK167.out 0
        have hfz15_1 := blk_frozen BK167.out 1
        have hfz15_2 := blk_frozen BK167.out 2
        have hfz15_3 := blk_frozen BK167.out 3
        have hfz15_4 := blk_frozen BK167.out 4
        go_wp2_with (first | (go_at_call 55; (with_reducible refine (slices_ContainsFunc_string_string.calls kj1 _ _ l0_4  t168 _ ?side1 ?side2 A14.out).mono ?_); (case side1 => repeat (first | exact (Kd.C_below HR0_4.out HB.out) | (with_reducible refine Kd.C_alloc ?_ _) | (with_reducible refine Kd.C_drewN ?_ _) | (with_reducible refine Kd.C_drew ?_))); (case side2 => exact HC0_4.out); rintro e w16 ⟨rfl, hb⟩; have n0_ := am (bB (g := gb167) (o := .cells #[.int .i64 a0_0, .string a0_1, .string a0_2, .string a0_3, .slice A0_4 l0_4.length c0_4] 25 (0, 0)) (by (with_reducible repeat (first | refine bN ?_ _ | refine bD ?_ | refine bA ?_ _)); exact BK167.out) hb); have n1_ := am (below_step (by repeat (first | (with_reducible first | exact HB.out | apply lA | apply lN | apply lD | refine below_set ?_ GE167.out) | exact HB.out)) hb); clear BK167; clear HB; have BK167 := n0_; have HB := n1_; clear n0_ n1_; (try clear hb); (try clear hb2); (try clear hk); (try clear hi)))
        go_ret
        exact ⟨by first | rfl | (simp [errW_none, errW_some] <;> rfl) | (simp [*, errW_none, errW_some] <;> rfl), by repeat (first | (with_reducible first | exact HB.out | apply lA | apply lN | apply lD | refine below_set ?_ GE167.out) | exact HB.out)⟩
       ·rw [if_neg c13] at H
        have c13b0 : decide ((l0_4.length : Int) ≤ 100) = false := decide_eq_false c13
        have c13b1 : decide (l0_4.length ≤ 100) = false := decide_eq_false (by omega)
        clear c13
        obtain rfl := Option.some.inj H
        have hcz17_0 : wc.cell? ⟨gb167, 0, none⟩ = some (.int .i64 a0_0) := (blk_cell BK167.out 0).trans rfl
        have hcz17_1 : wc.cell? ⟨gb167, 1, none⟩ = some (.string a0_1) := (blk_cell BK167.out 1).trans rfl
        have hcz17_2 : wc.cell? ⟨gb167, 2, none⟩ = some (.string a0_2) := (blk_cell BK167.out 2).trans rfl
        have hcz17_3 : wc.cell? ⟨gb167, 3, none⟩ = some (.string a0_3) := (blk_cell BK167.out 3).trans rfl
        have hcz17_4 : wc.cell? ⟨gb167, 4, none⟩ = some (.slice A0_4 l0_4.length c0_4) := (blk_cell BK167.out 4).trans rfl
        have hfz17_0 := blk_frozen BK167.out 0
        have hfz17_1 := blk_frozen BK167.out 1
        have hfz17_2 := blk_frozen BK167.out 2
        have hfz17_3 := blk_frozen BK167.out 3
        have hfz17_4 := blk_frozen BK167.out 4
        go_wp2
        go_ret
        exact ⟨by first | rfl | (simp [errW_none, errW_some] <;> rfl) | (simp [*, errW_none, errW_some] <;> rfl), by repeat (first | (with_reducible first | exact HB.out | apply lA | apply lN | apply lD | refine below_set ?_ GE167.out) | exact HB.out)⟩
     ·rw [if_neg c10] at H
      have c10b0 : (a0_3.toList == ([] : List UInt8)) = false := beq_eq_false_iff_ne.mpr c10
      have c10b1 : (a0_3.toList != ([] : List UInt8)) = true := bne_iff_ne.mpr c10
      obtain rfl := Option.some.inj H
      have hcz18_0 : wc.cell? ⟨gb167, 0, none⟩ = some (.int .i64 a0_0) := (blk_cell BK167.out 0).trans rfl
      have hcz18_1 : wc.cell? ⟨gb167, 1, none⟩ = some (.string a0_1) := (blk_cell BK167.out 1).trans rfl
      have hcz18_2 : wc.cell? ⟨gb167, 2, none⟩ = some (.string a0_2) := (blk_cell BK167.out 2).trans rfl
      have hcz18_3 : wc.cell? ⟨gb167, 3, none⟩ = some (.string a0_3) := (blk_cell BK167.out 3).trans rfl
      have hcz18_4 : wc.cell? ⟨gb167, 4, none⟩ = some (.slice A0_4 l0_4.length c0_4) := (blk_cell BK167.out 4).trans rfl
      have hfz18_0 := blk_frozen BK167.out 0
      have hfz18_1 := blk_frozen BK167.out 1
      have hfz18_2 := blk_frozen BK167.out 2
      have hfz18_3 := blk_frozen BK167.out 3
      have hfz18_4 := blk_frozen BK167.out 4
      go_wp2
      go_ret
      exact ⟨by first | rfl | (simp [errW_none, errW_some] <;> rfl) | (simp [*, errW_none, errW_some] <;> rfl), by repeat (first | (with_reducible first | exact HB.out | apply lA | apply lN | apply lD | refine below_set ?_ GE167.out) | exact HB.out)⟩
    ·replace c9 := Bool.eq_false_iff.mpr c9
     subst c9
     have H1 : (some false) = some r := by rw [if_neg (show ¬ (false = true) by decide)] at H; exact H
     clear H
     have H := H1
     clear H1
     obtain rfl := Option.some.inj H
     have hcz19_0 : wc.cell? ⟨gb167, 0, none⟩ = some (.int .i64 a0_0) := (blk_cell BK167.out 0).trans rfl
     have hcz19_1 : wc.cell? ⟨gb167, 1, none⟩ = some (.string a0_1) := (blk_cell BK167.out 1).trans rfl
     have hcz19_2 : wc.cell? ⟨gb167, 2, none⟩ = some (.string a0_2) := (blk_cell BK167.out 2).trans rfl
     have hcz19_3 : wc.cell? ⟨gb167, 3, none⟩ = some (.string a0_3) := (blk_cell BK167.out 3).trans rfl
     have hcz19_4 : wc.cell? ⟨gb167, 4, none⟩ = some (.slice A0_4 l0_4.length c0_4) := (blk_cell BK167.out 4).trans rfl
     have hfz19_0 := blk_frozen BK167.out 0
     have hfz19_1 := blk_frozen BK167.out 1
     have hfz19_2 := blk_frozen BK167.out 2
     have hfz19_3 := blk_frozen BK167.out 3
     have hfz19_4 := blk_frozen BK167.out 4
     go_wp2
     go_ret
     exact ⟨by first | rfl | (simp [errW_none, errW_some] <;> rfl) | (simp [*, errW_none, errW_some] <;> rfl), by repeat (first | (with_reducible first | exact HB.out | apply lA | apply lN | apply lD | refine below_set ?_ GE167.out) | exact HB.out)⟩
   ·rw [if_neg c8] at H
    have c8b0 : (a0_0 == 1) = false := beq_eq_false_iff_ne.mpr c8
    have c8b1 : (a0_0 != 1) = true := bne_iff_ne.mpr c8
    have HC20 := am H
    clear H
    have hcz21_0 : wc.cell? ⟨gb167, 0, none⟩ = some (.int .i64 a0_0) := (blk_cell BK167.out 0).trans rfl
    have hcz21_1 : wc.cell? ⟨gb167, 1, none⟩ = some (.string a0_1) := (blk_cell BK167.out 1).trans rfl
    have hcz21_2 : wc.cell? ⟨gb167, 2, none⟩ = some (.string a0_2) := (blk_cell BK167.out 2).trans rfl
    have hcz21_3 : wc.cell? ⟨gb167, 3, none⟩ = some (.string a0_3) := (blk_cell BK167.out 3).trans rfl
    have hcz21_4 : wc.cell? ⟨gb167, 4, none⟩ = some (.slice A0_4 l0_4.length c0_4) := (blk_cell BK167.out 4).trans rfl
    have hfz21_0 := blk_frozen BK167.out 0
    have hfz21_1 := blk_frozen BK167.out 1
    have hfz21_2 := blk_frozen BK167.out 2
    have hfz21_3 := blk_frozen BK167.out 3
    have hfz21_4 := blk_frozen BK167.out 4
    go_upto_if 43 with (fail)
    go_cut [43] (fun v43 wc => ∃ (kq : Nat) (x43_19 : Bool), v43 = .bool x43_19 ∧ Aside0 (tree_may.j1 kq ((l0_4.length : Int) == 0) x4_1 a0_0 x43_19 a0_0 a0_1 a0_2 a0_3 l0_4 = some r) ∧ Aside0 (kq ≤ kj1) ∧ Aside0 (wc.heap[gb167]? = some (.cells #[.int .i64 a0_0, .string a0_1, .string a0_2, .string a0_3, (.slice A0_4 l0_4.length c0_4)] 25 (0, 0))) ∧ Aside0 (Below w.heap.size w wc))
    case first =>
     have H := HC20.out
     clear HC20
     by_cases c22 : a0_0 = 2
     ·rw [if_pos c22] at H
      have c22b0 : (a0_0 == 2) = true := beq_iff_eq.mpr c22
      have c22b1 : (a0_0 != 2) = false := bne_eq_false_iff_eq.mpr c22
      clear c22
      (first | rw [c22b0] | (simp only [i64_w, i32_w]; rw [c22b0]) | skip)
      have H' := am H
      clear H
      go_wp2
      go_meet
      case rel => exact ⟨_, ((a0_0 == 2)), (by first | rfl | (simp; done) | (simp [*]; done)), H', ⟨by have := HJ1.out; first | omega | exact Nat.le_refl _⟩, ⟨by (with_reducible repeat (first | refine bN ?_ _ | refine bD ?_ | refine bA ?_ _)); exact BK167.out⟩, ⟨by repeat (first | (with_reducible first | exact HB.out | apply lA | apply lN | apply lD | refine below_set ?_ GE167.out) | exact HB.out)⟩⟩
     ·rw [if_neg c22] at H
      have c22b0 : (a0_0 == 2) = false := beq_eq_false_iff_ne.mpr c22
      have c22b1 : (a0_0 != 2) = true := bne_iff_ne.mpr c22
      (first | rw [c22b0] | (simp only [i64_w, i32_w]; rw [c22b0]) | skip)
      by_cases c23 : a0_0 = 5
      ·rw [if_pos c23] at H
       have c23b0 : (a0_0 == 5) = true := beq_iff_eq.mpr c23
       have c23b1 : (a0_0 != 5) = false := bne_eq_false_iff_eq.mpr c23
       clear c23
       have H' := am H
       clear H
       go_wp2
       go_meet
       case rel => exact ⟨_, ((a0_0 == 5)), (by first | rfl | (simp; done) | (simp [*]; done)), H', ⟨by have := HJ1.out; first | omega | exact Nat.le_refl _⟩, ⟨by (with_reducible repeat (first | refine bN ?_ _ | refine bD ?_ | refine bA ?_ _)); exact BK167.out⟩, ⟨by repeat (first | (with_reducible first | exact HB.out | apply lA | apply lN | apply lD | refine below_set ?_ GE167.out) | exact HB.out)⟩⟩
      ·rw [if_neg c23] at H
       have c23b0 : (a0_0 == 5) = false := beq_eq_false_iff_ne.mpr c23
       have c23b1 : (a0_0 != 5) = true := bne_iff_ne.mpr c23
       have H' := am H
       clear H
       go_wp2
       go_meet
       case rel => exact ⟨_, ((a0_0 == 6)), (by first | rfl | (simp; done) | (simp [*]; done)), H', ⟨by have := HJ1.out; first | omega | exact Nat.le_refl _⟩, ⟨by (with_reducible repeat (first | refine bN ?_ _ | refine bD ?_ | refine bA ?_ _)); exact BK167.out⟩, ⟨by repeat (first | (with_reducible first | exact HB.out | apply lA | apply lN | apply lD | refine below_set ?_ GE167.out) | exact HB.out)⟩⟩
    case rest =>
     clear HC20
     try clear c1
     try clear c2
     try clear p2
     try clear c4
     try clear c5
     try clear c5b0
     try clear c5b1
     try clear c8
     try clear c8b0
     try clear c8b1
     try clear c9
     try clear c10
     try clear c10b0
     try clear c10b1
     try clear c11
     try clear c11b0
     try clear c11b1
     try clear c11b2
     try clear c13
     try clear c13b0
     try clear c13b1
     try clear c22
     try clear c22b0
     try clear c22b1
     try clear c23
     try clear c23b0
     try clear c23b1
     try clear hcz12_0
     try clear hcz12_1
     try clear hcz12_2
     try clear hcz12_3
     try clear hcz12_4
     try clear hcz15_0
     try clear hcz15_1
     try clear hcz15_2
     try clear hcz15_3
     try clear hcz15_4
     try clear hcz17_0
     try clear hcz17_1
     try clear hcz17_2
     try clear hcz17_3
     try clear hcz17_4
     try clear hcz18_0
     try clear hcz18_1
     try clear hcz18_2
     try clear hcz18_3
     try clear hcz18_4
     try clear hcz19_0
     try clear hcz19_1
     try clear hcz19_2
     try clear hcz19_3
     try clear hcz19_4
     try clear hcz21_0
     try clear hcz21_1
     try clear hcz21_2
     try clear hcz21_3
     try clear hcz21_4
     try clear hcz4_0
     try clear hcz4_1
     try clear hcz4_2
     try clear hcz4_3
     try clear hcz4_4
     try clear hcz6_0
     try clear hcz6_1
     try clear hcz6_2
     try clear hcz6_3
     try clear hcz6_4
     try clear hcz7_0
     try clear hcz7_1
     try clear hcz7_2
     try clear hcz7_3
     try clear hcz7_4
     try clear hfz12_0
     try clear hfz12_1
     try clear hfz12_2
     try clear hfz12_3
     try clear hfz12_4
     try clear hfz15_0
     try clear hfz15_1
     try clear hfz15_2
     try clear hfz15_3
     try clear hfz15_4
     try clear hfz17_0
     try clear hfz17_1
     try clear hfz17_2
     try clear hfz17_3
     try clear hfz17_4
     try clear hfz18_0
     try clear hfz18_1
     try clear hfz18_2
     try clear hfz18_3
     try clear hfz18_4
     try clear hfz19_0
     try clear hfz19_1
     try clear hfz19_2
     try clear hfz19_3
     try clear hfz19_4
     try clear hfz21_0
     try clear hfz21_1
     try clear hfz21_2
     try clear hfz21_3
     try clear hfz21_4
     try clear hfz4_0
     try clear hfz4_1
     try clear hfz4_2
     try clear hfz4_3
     try clear hfz4_4
     try clear hfz6_0
     try clear hfz6_1
     try clear hfz6_2
     try clear hfz6_3
     try clear hfz6_4
     try clear hfz7_0
     try clear hfz7_1
     try clear hfz7_2
     try clear hfz7_3
     try clear hfz7_4
     try clear p2
     obtain ⟨kq, x43_19, rfl, HA, HJ19, BK167, HB⟩ := hcut
     cases kq with
     | zero => exact absurd HA.out (by simp [tree_may.j1])
     | succ kj19 =>
      have H := HA.out
      clear HA
      simp only [tree_may.j1] at H
      by_cases c24 : x43_19 = true
      ·subst c24
       have H1 : (if x4_1 = true then (if ((l0_4.length : Int) == 0) = true then ((tree_is.f kj19 a0_3 2).bind fun t169 => (some t169)) else (some false)) else (some false)) = some r := by rw [if_pos rfl] at H; exact H
       clear H
       have H := H1
       clear H1
       by_cases c25 : x4_1 = true
       ·subst c25
        have H1 : (if ((l0_4.length : Int) == 0) = true then ((tree_is.f kj19 a0_3 2).bind fun t169 => (some t169)) else (some false)) = some r := by rw [if_pos rfl] at H; exact H
        clear H
        have H := H1
        clear H1
        by_cases c26 : ((l0_4.length : Int) == 0) = true
        ·rw [if_pos c26] at H
         have c26b0 : ((l0_4.length : Int) == 0) = true := c26
         (try (have c26b1 : decide ((l0_4.length : Int) = 0) = true := by simpa using c26))
         (try (have c26b2 : ((l0_4.length : Int) == 0) = true := by simpa using c26))
         clear c26
         replace H := Option.bind_eq_some_iff.mp H
         obtain ⟨t169, A270, H⟩ := H
         replace H : (some t169) = some r := H
         have A27 := am A270
         clear A270
         obtain rfl := Option.some.inj H
         have hcz28_0 : wc.cell? ⟨gb167, 0, none⟩ = some (.int .i64 a0_0) := (blk_cell BK167.out 0).trans rfl
         have hcz28_1 : wc.cell? ⟨gb167, 1, none⟩ = some (.string a0_1) := (blk_cell BK167.out 1).trans rfl
         have hcz28_2 : wc.cell? ⟨gb167, 2, none⟩ = some (.string a0_2) := (blk_cell BK167.out 2).trans rfl
         have hcz28_3 : wc.cell? ⟨gb167, 3, none⟩ = some (.string a0_3) := (blk_cell BK167.out 3).trans rfl
         have hcz28_4 : wc.cell? ⟨gb167, 4, none⟩ = some (.slice A0_4 l0_4.length c0_4) := (blk_cell BK167.out 4).trans rfl
         have hfz28_0 := blk_frozen BK167.out 0
         have hfz28_1 := blk_frozen BK167.out 1
         have hfz28_2 := blk_frozen BK167.out 2
         have hfz28_3 := blk_frozen BK167.out 3
         have hfz28_4 := blk_frozen BK167.out 4
         go_wp2_with (first | (go_at_call 58; (with_reducible refine (tree_is.calls kj19 a0_3 2 t169 _ A27.out).mono ?_); rintro e w29 ⟨rfl, hb⟩; have n0_ := am (bB (g := gb167) (o := .cells #[.int .i64 a0_0, .string a0_1, .string a0_2, .string a0_3, .slice A0_4 l0_4.length c0_4] 25 (0, 0)) (by (with_reducible repeat (first | refine bN ?_ _ | refine bD ?_ | refine bA ?_ _)); exact BK167.out) hb); have n1_ := am (below_step (by repeat (first | (with_reducible first | exact HB.out | apply lA | apply lN | apply lD | refine below_set ?_ GE167.out) | exact HB.out)) hb); clear BK167; clear HB; have BK167 := n0_; have HB := n1_; clear n0_ n1_; (try clear hb); (try clear hb2); (try clear hk); (try clear hi)))
         go_ret
         exact ⟨by first | rfl | (simp [errW_none, errW_some] <;> rfl) | (simp [*, errW_none, errW_some] <;> rfl), by repeat (first | (with_reducible first | exact HB.out | apply lA | apply lN | apply lD | refine below_set ?_ GE167.out) | exact HB.out)⟩
        ·rw [if_neg c26] at H
         have c26b0 : ((l0_4.length : Int) == 0) = false := by simpa using c26
         (try (have c26b1 : decide ((l0_4.length : Int) = 0) = false := by simpa using c26))
         (try (have c26b2 : ((l0_4.length : Int) == 0) = false := by simpa using c26))
         (try (have c26b3 : ¬ ((l0_4.length : Int) = 0) := by simpa using c26))
         clear c26
         obtain rfl := Option.some.inj H
         go_wp2
         go_ret
         exact ⟨by first | rfl | (simp [errW_none, errW_some] <;> rfl) | (simp [*, errW_none, errW_some] <;> rfl), by repeat (first | (with_reducible first | exact HB.out | apply lA | apply lN | apply lD | refine below_set ?_ GE167.out) | exact HB.out)⟩
       ·replace c25 := Bool.eq_false_iff.mpr c25
        subst c25
        have H1 : (some false) = some r := by rw [if_neg (show ¬ (false = true) by decide)] at H; exact H
        clear H
        have H := H1
        clear H1
        obtain rfl := Option.some.inj H
        go_wp2
        go_ret
        exact ⟨by first | rfl | (simp [errW_none, errW_some] <;> rfl) | (simp [*, errW_none, errW_some] <;> rfl), by repeat (first | (with_reducible first | exact HB.out | apply lA | apply lN | apply lD | refine below_set ?_ GE167.out) | exact HB.out)⟩
      ·replace c24 := Bool.eq_false_iff.mpr c24
       subst c24
       have H1 : (if a0_0 = 7 then (if x4_1 = true then (if ((l0_4.length : Int) == 0) = true then ((tree_is.f kj19 a0_3 3).bind fun t170 => (some t170)) else (some false)) else (some false)) else (if a0_0 = 8 then (if x4_1 = true then (if ((l0_4.length : Int) == 0) = true then (some (a0_3.toList == ([] : List UInt8))) else (some false)) else (some false)) else (if a0_0 = 3 then (if ((l0_4.length : Int) == 0) = true then (if a0_3.toList = ([] : List UInt8) then ((tree_verb.f kj19 a0_1).bind fun t171 => (if t171 = true then ((tree_adv.f a0_2 (⟨#[39, 47, 92, 96]⟩ : ByteArray)).bind fun t172 => (some t172)) else (some false))) else (some false)) else (some false)) else (if a0_0 = 4 then (if ((l0_4.length : Int) == 0) = true then (if a0_3.toList = ([] : List UInt8) then ((tree_verb.f kj19 a0_1).bind fun t173 => (if t173 = true then ((tree_adv.f a0_2 (⟨#[39, 46]⟩ : ByteArray)).bind fun t174 => (some t174)) else (some false))) else (some false)) else (some false)) else (some false))))) = some r := by rw [if_neg (show ¬ (false = true) by decide)] at H; exact H
       clear H
       have H := H1
       clear H1
       by_cases c30 : a0_0 = 7
       ·rw [if_pos c30] at H
        have c30b0 : (a0_0 == 7) = true := beq_iff_eq.mpr c30
        have c30b1 : (a0_0 != 7) = false := bne_eq_false_iff_eq.mpr c30
        clear c30
        by_cases c31 : x4_1 = true
        ·subst c31
         have H1 : (if ((l0_4.length : Int) == 0) = true then ((tree_is.f kj19 a0_3 3).bind fun t170 => (some t170)) else (some false)) = some r := by rw [if_pos rfl] at H; exact H
         clear H
         have H := H1
         clear H1
         by_cases c32 : ((l0_4.length : Int) == 0) = true
         ·rw [if_pos c32] at H
          have c32b0 : ((l0_4.length : Int) == 0) = true := c32
          (try (have c32b1 : decide ((l0_4.length : Int) = 0) = true := by simpa using c32))
          (try (have c32b2 : ((l0_4.length : Int) == 0) = true := by simpa using c32))
          clear c32
          replace H := Option.bind_eq_some_iff.mp H
          obtain ⟨t170, A330, H⟩ := H
          replace H : (some t170) = some r := H
          have A33 := am A330
          clear A330
          obtain rfl := Option.some.inj H
          have hcz34_0 : wc.cell? ⟨gb167, 0, none⟩ = some (.int .i64 a0_0) := (blk_cell BK167.out 0).trans rfl
          have hcz34_1 : wc.cell? ⟨gb167, 1, none⟩ = some (.string a0_1) := (blk_cell BK167.out 1).trans rfl
          have hcz34_2 : wc.cell? ⟨gb167, 2, none⟩ = some (.string a0_2) := (blk_cell BK167.out 2).trans rfl
          have hcz34_3 : wc.cell? ⟨gb167, 3, none⟩ = some (.string a0_3) := (blk_cell BK167.out 3).trans rfl
          have hcz34_4 : wc.cell? ⟨gb167, 4, none⟩ = some (.slice A0_4 l0_4.length c0_4) := (blk_cell BK167.out 4).trans rfl
          have hfz34_0 := blk_frozen BK167.out 0
          have hfz34_1 := blk_frozen BK167.out 1
          have hfz34_2 := blk_frozen BK167.out 2
          have hfz34_3 := blk_frozen BK167.out 3
          have hfz34_4 := blk_frozen BK167.out 4
          go_wp2_with (first | (go_at_call 58; (with_reducible refine (tree_is.calls kj19 a0_3 3 t170 _ A33.out).mono ?_); rintro e w35 ⟨rfl, hb⟩; have n0_ := am (bB (g := gb167) (o := .cells #[.int .i64 a0_0, .string a0_1, .string a0_2, .string a0_3, .slice A0_4 l0_4.length c0_4] 25 (0, 0)) (by (with_reducible repeat (first | refine bN ?_ _ | refine bD ?_ | refine bA ?_ _)); exact BK167.out) hb); have n1_ := am (below_step (by repeat (first | (with_reducible first | exact HB.out | apply lA | apply lN | apply lD | refine below_set ?_ GE167.out) | exact HB.out)) hb); clear BK167; clear HB; have BK167 := n0_; have HB := n1_; clear n0_ n1_; (try clear hb); (try clear hb2); (try clear hk); (try clear hi)))
          go_ret
          exact ⟨by first | rfl | (simp [errW_none, errW_some] <;> rfl) | (simp [*, errW_none, errW_some] <;> rfl), by repeat (first | (with_reducible first | exact HB.out | apply lA | apply lN | apply lD | refine below_set ?_ GE167.out) | exact HB.out)⟩
         ·rw [if_neg c32] at H
          have c32b0 : ((l0_4.length : Int) == 0) = false := by simpa using c32
          (try (have c32b1 : decide ((l0_4.length : Int) = 0) = false := by simpa using c32))
          (try (have c32b2 : ((l0_4.length : Int) == 0) = false := by simpa using c32))
          (try (have c32b3 : ¬ ((l0_4.length : Int) = 0) := by simpa using c32))
          clear c32
          obtain rfl := Option.some.inj H
          go_wp2
          go_ret
          exact ⟨by first | rfl | (simp [errW_none, errW_some] <;> rfl) | (simp [*, errW_none, errW_some] <;> rfl), by repeat (first | (with_reducible first | exact HB.out | apply lA | apply lN | apply lD | refine below_set ?_ GE167.out) | exact HB.out)⟩
        ·replace c31 := Bool.eq_false_iff.mpr c31
         subst c31
         have H1 : (some false) = some r := by rw [if_neg (show ¬ (false = true) by decide)] at H; exact H
         clear H
         have H := H1
         clear H1
         obtain rfl := Option.some.inj H
         go_wp2
         go_ret
         exact ⟨by first | rfl | (simp [errW_none, errW_some] <;> rfl) | (simp [*, errW_none, errW_some] <;> rfl), by repeat (first | (with_reducible first | exact HB.out | apply lA | apply lN | apply lD | refine below_set ?_ GE167.out) | exact HB.out)⟩
       ·rw [if_neg c30] at H
        have c30b0 : (a0_0 == 7) = false := beq_eq_false_iff_ne.mpr c30
        have c30b1 : (a0_0 != 7) = true := bne_iff_ne.mpr c30
        by_cases c36 : a0_0 = 8
        ·rw [if_pos c36] at H
         have c36b0 : (a0_0 == 8) = true := beq_iff_eq.mpr c36
         have c36b1 : (a0_0 != 8) = false := bne_eq_false_iff_eq.mpr c36
         clear c36
         by_cases c37 : x4_1 = true
         ·subst c37
          have H1 : (if ((l0_4.length : Int) == 0) = true then (some (a0_3.toList == ([] : List UInt8))) else (some false)) = some r := by rw [if_pos rfl] at H; exact H
          clear H
          have H := H1
          clear H1
          by_cases c38 : ((l0_4.length : Int) == 0) = true
          ·rw [if_pos c38] at H
           have c38b0 : ((l0_4.length : Int) == 0) = true := c38
           (try (have c38b1 : decide ((l0_4.length : Int) = 0) = true := by simpa using c38))
           (try (have c38b2 : ((l0_4.length : Int) == 0) = true := by simpa using c38))
           clear c38
           obtain rfl := Option.some.inj H
           have hcz39_0 : wc.cell? ⟨gb167, 0, none⟩ = some (.int .i64 a0_0) := (blk_cell BK167.out 0).trans rfl
           have hcz39_1 : wc.cell? ⟨gb167, 1, none⟩ = some (.string a0_1) := (blk_cell BK167.out 1).trans rfl
           have hcz39_2 : wc.cell? ⟨gb167, 2, none⟩ = some (.string a0_2) := (blk_cell BK167.out 2).trans rfl
           have hcz39_3 : wc.cell? ⟨gb167, 3, none⟩ = some (.string a0_3) := (blk_cell BK167.out 3).trans rfl
           have hcz39_4 : wc.cell? ⟨gb167, 4, none⟩ = some (.slice A0_4 l0_4.length c0_4) := (blk_cell BK167.out 4).trans rfl
           have hfz39_0 := blk_frozen BK167.out 0
           have hfz39_1 := blk_frozen BK167.out 1
           have hfz39_2 := blk_frozen BK167.out 2
           have hfz39_3 := blk_frozen BK167.out 3
           have hfz39_4 := blk_frozen BK167.out 4
           go_wp2
           go_ret
           exact ⟨by first | rfl | (simp [errW_none, errW_some] <;> rfl) | (simp [*, errW_none, errW_some] <;> rfl), by repeat (first | (with_reducible first | exact HB.out | apply lA | apply lN | apply lD | refine below_set ?_ GE167.out) | exact HB.out)⟩
          ·rw [if_neg c38] at H
           have c38b0 : ((l0_4.length : Int) == 0) = false := by simpa using c38
           (try (have c38b1 : decide ((l0_4.length : Int) = 0) = false := by simpa using c38))
           (try (have c38b2 : ((l0_4.length : Int) == 0) = false := by simpa using c38))
           (try (have c38b3 : ¬ ((l0_4.length : Int) = 0) := by simpa using c38))
           clear c38
           obtain rfl := Option.some.inj H
           go_wp2
           go_ret
           exact ⟨by first | rfl | (simp [errW_none, errW_some] <;> rfl) | (simp [*, errW_none, errW_some] <;> rfl), by repeat (first | (with_reducible first | exact HB.out | apply lA | apply lN | apply lD | refine below_set ?_ GE167.out) | exact HB.out)⟩
         ·replace c37 := Bool.eq_false_iff.mpr c37
          subst c37
          have H1 : (some false) = some r := by rw [if_neg (show ¬ (false = true) by decide)] at H; exact H
          clear H
          have H := H1
          clear H1
          obtain rfl := Option.some.inj H
          go_wp2
          go_ret
          exact ⟨by first | rfl | (simp [errW_none, errW_some] <;> rfl) | (simp [*, errW_none, errW_some] <;> rfl), by repeat (first | (with_reducible first | exact HB.out | apply lA | apply lN | apply lD | refine below_set ?_ GE167.out) | exact HB.out)⟩
        ·rw [if_neg c36] at H
         have c36b0 : (a0_0 == 8) = false := beq_eq_false_iff_ne.mpr c36
         have c36b1 : (a0_0 != 8) = true := bne_iff_ne.mpr c36
         by_cases c40 : a0_0 = 3
         ·rw [if_pos c40] at H
          have c40b0 : (a0_0 == 3) = true := beq_iff_eq.mpr c40
          have c40b1 : (a0_0 != 3) = false := bne_eq_false_iff_eq.mpr c40
          clear c40
          by_cases c41 : ((l0_4.length : Int) == 0) = true
          ·rw [if_pos c41] at H
           have c41b0 : ((l0_4.length : Int) == 0) = true := c41
           (try (have c41b1 : decide ((l0_4.length : Int) = 0) = true := by simpa using c41))
           (try (have c41b2 : ((l0_4.length : Int) == 0) = true := by simpa using c41))
           clear c41
           by_cases c42 : a0_3.toList = ([] : List UInt8)
           ·rw [if_pos c42] at H
            have c42b0 : (a0_3.toList == ([] : List UInt8)) = true := beq_iff_eq.mpr c42
            have c42b1 : (a0_3.toList != ([] : List UInt8)) = false := bne_eq_false_iff_eq.mpr c42
            clear c42
            replace H := Option.bind_eq_some_iff.mp H
            obtain ⟨t171, A430, H⟩ := H
            replace H : (if t171 = true then ((tree_adv.f a0_2 (⟨#[39, 47, 92, 96]⟩ : ByteArray)).bind fun t172 => (some t172)) else (some false)) = some r := H
            have A43 := am A430
            clear A430
            by_cases c44 : t171 = true
            ·subst c44
             have H1 : ((tree_adv.f a0_2 (⟨#[39, 47, 92, 96]⟩ : ByteArray)).bind fun t172 => (some t172)) = some r := by rw [if_pos rfl] at H; exact H
             clear H
             have H := H1
             clear H1
             replace H := Option.bind_eq_some_iff.mp H
             obtain ⟨t172, A450, H⟩ := H
             replace H : (some t172) = some r := H
             have A45 := am A450
             clear A450
             obtain rfl := Option.some.inj H
             have hcz46_0 : wc.cell? ⟨gb167, 0, none⟩ = some (.int .i64 a0_0) := (blk_cell BK167.out 0).trans rfl
             have hcz46_1 : wc.cell? ⟨gb167, 1, none⟩ = some (.string a0_1) := (blk_cell BK167.out 1).trans rfl
             have hcz46_2 : wc.cell? ⟨gb167, 2, none⟩ = some (.string a0_2) := (blk_cell BK167.out 2).trans rfl
             have hcz46_3 : wc.cell? ⟨gb167, 3, none⟩ = some (.string a0_3) := (blk_cell BK167.out 3).trans rfl
             have hcz46_4 : wc.cell? ⟨gb167, 4, none⟩ = some (.slice A0_4 l0_4.length c0_4) := (blk_cell BK167.out 4).trans rfl
             have hfz46_0 := blk_frozen BK167.out 0
             have hfz46_1 := blk_frozen BK167.out 1
             have hfz46_2 := blk_frozen BK167.out 2
             have hfz46_3 := blk_frozen BK167.out 3
             have hfz46_4 := blk_frozen BK167.out 4
             go_wp2_with (first | (go_at_call 59; (with_reducible refine (tree_verb.calls kj19 a0_1 true _ A43.out).mono ?_); rintro e w47 ⟨rfl, hb⟩; have n0_ := am (bB (g := gb167) (o := .cells #[.int .i64 a0_0, .string a0_1, .string a0_2, .string a0_3, .slice A0_4 l0_4.length c0_4] 25 (0, 0)) (by (with_reducible repeat (first | refine bN ?_ _ | refine bD ?_ | refine bA ?_ _)); exact BK167.out) hb); have n1_ := am (below_step (by repeat (first | (with_reducible first | exact HB.out | apply lA | apply lN | apply lD | refine below_set ?_ GE167.out) | exact HB.out)) hb); clear BK167; clear HB; have BK167 := n0_; have HB := n1_; clear n0_ n1_; (try clear hb); (try clear hb2); (try clear hk); (try clear hi); have hcz48_0 : w47.cell? ⟨gb167, 0, none⟩ = some (.int .i64 a0_0) := (blk_cell BK167.out 0).trans rfl; have hcz48_1 : w47.cell? ⟨gb167, 1, none⟩ = some (.string a0_1) := (blk_cell BK167.out 1).trans rfl; have hcz48_2 : w47.cell? ⟨gb167, 2, none⟩ = some (.string a0_2) := (blk_cell BK167.out 2).trans rfl; have hcz48_3 : w47.cell? ⟨gb167, 3, none⟩ = some (.string a0_3) := (blk_cell BK167.out 3).trans rfl; have hcz48_4 : w47.cell? ⟨gb167, 4, none⟩ = some (.slice A0_4 l0_4.length c0_4) := (blk_cell BK167.out 4).trans rfl; have hfz48_0 := blk_frozen BK167.out 0; have hfz48_1 := blk_frozen BK167.out 1; have hfz48_2 := blk_frozen BK167.out 2; have hfz48_3 := blk_frozen BK167.out 3; have hfz48_4 := blk_frozen BK167.out 4) | (go_at_call 60; (with_reducible refine (tree_adv.calls a0_2 (⟨#[39, 47, 92, 96]⟩ : ByteArray) t172 _ A45.out).mono ?_); rintro e w' ⟨rfl, ⟨nd, rfl⟩⟩))
             go_ret
             exact ⟨by first | rfl | (simp [errW_none, errW_some] <;> rfl) | (simp [*, errW_none, errW_some] <;> rfl), by repeat (first | (with_reducible first | exact HB.out | apply lA | apply lN | apply lD | refine below_set ?_ GE167.out) | exact HB.out)⟩
            ·replace c44 := Bool.eq_false_iff.mpr c44
             subst c44
             have H1 : (some false) = some r := by rw [if_neg (show ¬ (false = true) by decide)] at H; exact H
             clear H
             have H := H1
             clear H1
             obtain rfl := Option.some.inj H
             have hcz49_0 : wc.cell? ⟨gb167, 0, none⟩ = some (.int .i64 a0_0) := (blk_cell BK167.out 0).trans rfl
             have hcz49_1 : wc.cell? ⟨gb167, 1, none⟩ = some (.string a0_1) := (blk_cell BK167.out 1).trans rfl
             have hcz49_2 : wc.cell? ⟨gb167, 2, none⟩ = some (.string a0_2) := (blk_cell BK167.out 2).trans rfl
             have hcz49_3 : wc.cell? ⟨gb167, 3, none⟩ = some (.string a0_3) := (blk_cell BK167.out 3).trans rfl
             have hcz49_4 : wc.cell? ⟨gb167, 4, none⟩ = some (.slice A0_4 l0_4.length c0_4) := (blk_cell BK167.out 4).trans rfl
             have hfz49_0 := blk_frozen BK167.out 0
             have hfz49_1 := blk_frozen BK167.out 1
             have hfz49_2 := blk_frozen BK167.out 2
             have hfz49_3 := blk_frozen BK167.out 3
             have hfz49_4 := blk_frozen BK167.out 4
             go_wp2_with (first | (go_at_call 59; (with_reducible refine (tree_verb.calls kj19 a0_1 false _ A43.out).mono ?_); rintro e w50 ⟨rfl, hb⟩; have n0_ := am (bB (g := gb167) (o := .cells #[.int .i64 a0_0, .string a0_1, .string a0_2, .string a0_3, .slice A0_4 l0_4.length c0_4] 25 (0, 0)) (by (with_reducible repeat (first | refine bN ?_ _ | refine bD ?_ | refine bA ?_ _)); exact BK167.out) hb); have n1_ := am (below_step (by repeat (first | (with_reducible first | exact HB.out | apply lA | apply lN | apply lD | refine below_set ?_ GE167.out) | exact HB.out)) hb); clear BK167; clear HB; have BK167 := n0_; have HB := n1_; clear n0_ n1_; (try clear hb); (try clear hb2); (try clear hk); (try clear hi)))
             go_ret
             exact ⟨by first | rfl | (simp [errW_none, errW_some] <;> rfl) | (simp [*, errW_none, errW_some] <;> rfl), by repeat (first | (with_reducible first | exact HB.out | apply lA | apply lN | apply lD | refine below_set ?_ GE167.out) | exact HB.out)⟩
           ·rw [if_neg c42] at H
            have c42b0 : (a0_3.toList == ([] : List UInt8)) = false := beq_eq_false_iff_ne.mpr c42
            have c42b1 : (a0_3.toList != ([] : List UInt8)) = true := bne_iff_ne.mpr c42
            obtain rfl := Option.some.inj H
            have hcz51_0 : wc.cell? ⟨gb167, 0, none⟩ = some (.int .i64 a0_0) := (blk_cell BK167.out 0).trans rfl
            have hcz51_1 : wc.cell? ⟨gb167, 1, none⟩ = some (.string a0_1) := (blk_cell BK167.out 1).trans rfl
            have hcz51_2 : wc.cell? ⟨gb167, 2, none⟩ = some (.string a0_2) := (blk_cell BK167.out 2).trans rfl
            have hcz51_3 : wc.cell? ⟨gb167, 3, none⟩ = some (.string a0_3) := (blk_cell BK167.out 3).trans rfl
            have hcz51_4 : wc.cell? ⟨gb167, 4, none⟩ = some (.slice A0_4 l0_4.length c0_4) := (blk_cell BK167.out 4).trans rfl
            have hfz51_0 := blk_frozen BK167.out 0
            have hfz51_1 := blk_frozen BK167.out 1
            have hfz51_2 := blk_frozen BK167.out 2
            have hfz51_3 := blk_frozen BK167.out 3
            have hfz51_4 := blk_frozen BK167.out 4
            go_wp2
            go_ret
            exact ⟨by first | rfl | (simp [errW_none, errW_some] <;> rfl) | (simp [*, errW_none, errW_some] <;> rfl), by repeat (first | (with_reducible first | exact HB.out | apply lA | apply lN | apply lD | refine below_set ?_ GE167.out) | exact HB.out)⟩
          ·rw [if_neg c41] at H
           have c41b0 : ((l0_4.length : Int) == 0) = false := by simpa using c41
           (try (have c41b1 : decide ((l0_4.length : Int) = 0) = false := by simpa using c41))
           (try (have c41b2 : ((l0_4.length : Int) == 0) = false := by simpa using c41))
           (try (have c41b3 : ¬ ((l0_4.length : Int) = 0) := by simpa using c41))
           clear c41
           obtain rfl := Option.some.inj H
           go_wp2
           go_ret
           exact ⟨by first | rfl | (simp [errW_none, errW_some] <;> rfl) | (simp [*, errW_none, errW_some] <;> rfl), by repeat (first | (with_reducible first | exact HB.out | apply lA | apply lN | apply lD | refine below_set ?_ GE167.out) | exact HB.out)⟩
         ·rw [if_neg c40] at H
          have c40b0 : (a0_0 == 3) = false := beq_eq_false_iff_ne.mpr c40
          have c40b1 : (a0_0 != 3) = true := bne_iff_ne.mpr c40
          by_cases c52 : a0_0 = 4
          ·rw [if_pos c52] at H
           have c52b0 : (a0_0 == 4) = true := beq_iff_eq.mpr c52
           have c52b1 : (a0_0 != 4) = false := bne_eq_false_iff_eq.mpr c52
           clear c52
           by_cases c53 : ((l0_4.length : Int) == 0) = true
           ·rw [if_pos c53] at H
            have c53b0 : ((l0_4.length : Int) == 0) = true := c53
            (try (have c53b1 : decide ((l0_4.length : Int) = 0) = true := by simpa using c53))
            (try (have c53b2 : ((l0_4.length : Int) == 0) = true := by simpa using c53))
            clear c53
            by_cases c54 : a0_3.toList = ([] : List UInt8)
            ·rw [if_pos c54] at H
             have c54b0 : (a0_3.toList == ([] : List UInt8)) = true := beq_iff_eq.mpr c54
             have c54b1 : (a0_3.toList != ([] : List UInt8)) = false := bne_eq_false_iff_eq.mpr c54
             clear c54
             replace H := Option.bind_eq_some_iff.mp H
             obtain ⟨t173, A550, H⟩ := H
             replace H : (if t173 = true then ((tree_adv.f a0_2 (⟨#[39, 46]⟩ : ByteArray)).bind fun t174 => (some t174)) else (some false)) = some r := H
             have A55 := am A550
             clear A550
             by_cases c56 : t173 = true
             ·subst c56
              have H1 : ((tree_adv.f a0_2 (⟨#[39, 46]⟩ : ByteArray)).bind fun t174 => (some t174)) = some r := by rw [if_pos rfl] at H; exact H
              clear H
              have H := H1
              clear H1
              replace H := Option.bind_eq_some_iff.mp H
              obtain ⟨t174, A570, H⟩ := H
              replace H : (some t174) = some r := H
              have A57 := am A570
              clear A570
              obtain rfl := Option.some.inj H
              have hcz58_0 : wc.cell? ⟨gb167, 0, none⟩ = some (.int .i64 a0_0) := (blk_cell BK167.out 0).trans rfl
              have hcz58_1 : wc.cell? ⟨gb167, 1, none⟩ = some (.string a0_1) := (blk_cell BK167.out 1).trans rfl
              have hcz58_2 : wc.cell? ⟨gb167, 2, none⟩ = some (.string a0_2) := (blk_cell BK167.out 2).trans rfl
              have hcz58_3 : wc.cell? ⟨gb167, 3, none⟩ = some (.string a0_3) := (blk_cell BK167.out 3).trans rfl
              have hcz58_4 : wc.cell? ⟨gb167, 4, none⟩ = some (.slice A0_4 l0_4.length c0_4) := (blk_cell BK167.out 4).trans rfl
              have hfz58_0 := blk_frozen BK167.out 0
              have hfz58_1 := blk_frozen BK167.out 1
              have hfz58_2 := blk_frozen BK167.out 2
              have hfz58_3 := blk_frozen BK167.out 3
              have hfz58_4 := blk_frozen BK167.out 4
              go_wp2_with (first | (go_at_call 59; (with_reducible refine (tree_verb.calls kj19 a0_1 true _ A55.out).mono ?_); rintro e w59 ⟨rfl, hb⟩; have n0_ := am (bB (g := gb167) (o := .cells #[.int .i64 a0_0, .string a0_1, .string a0_2, .string a0_3, .slice A0_4 l0_4.length c0_4] 25 (0, 0)) (by (with_reducible repeat (first | refine bN ?_ _ | refine bD ?_ | refine bA ?_ _)); exact BK167.out) hb); have n1_ := am (below_step (by repeat (first | (with_reducible first | exact HB.out | apply lA | apply lN | apply lD | refine below_set ?_ GE167.out) | exact HB.out)) hb); clear BK167; clear HB; have BK167 := n0_; have HB := n1_; clear n0_ n1_; (try clear hb); (try clear hb2); (try clear hk); (try clear hi); have hcz60_0 : w59.cell? ⟨gb167, 0, none⟩ = some (.int .i64 a0_0) := (blk_cell BK167.out 0).trans rfl; have hcz60_1 : w59.cell? ⟨gb167, 1, none⟩ = some (.string a0_1) := (blk_cell BK167.out 1).trans rfl; have hcz60_2 : w59.cell? ⟨gb167, 2, none⟩ = some (.string a0_2) := (blk_cell BK167.out 2).trans rfl; have hcz60_3 : w59.cell? ⟨gb167, 3, none⟩ = some (.string a0_3) := (blk_cell BK167.out 3).trans rfl; have hcz60_4 : w59.cell? ⟨gb167, 4, none⟩ = some (.slice A0_4 l0_4.length c0_4) := (blk_cell BK167.out 4).trans rfl; have hfz60_0 := blk_frozen BK167.out 0; have hfz60_1 := blk_frozen BK167.out 1; have hfz60_2 := blk_frozen BK167.out 2; have hfz60_3 := blk_frozen BK167.out 3; have hfz60_4 := blk_frozen BK167.out 4) | (go_at_call 60; (with_reducible refine (tree_adv.calls a0_2 (⟨#[39, 46]⟩ : ByteArray) t174 _ A57.out).mono ?_); rintro e w' ⟨rfl, ⟨nd, rfl⟩⟩))
              go_ret
              exact ⟨by first | rfl | (simp [errW_none, errW_some] <;> rfl) | (simp [*, errW_none, errW_some] <;> rfl), by repeat (first | (with_reducible first | exact HB.out | apply lA | apply lN | apply lD | refine below_set ?_ GE167.out) | exact HB.out)⟩
             ·replace c56 := Bool.eq_false_iff.mpr c56
              subst c56
              have H1 : (some false) = some r := by rw [if_neg (show ¬ (false = true) by decide)] at H; exact H
              clear H
              have H := H1
              clear H1
              obtain rfl := Option.some.inj H
              have hcz61_0 : wc.cell? ⟨gb167, 0, none⟩ = some (.int .i64 a0_0) := (blk_cell BK167.out 0).trans rfl
              have hcz61_1 : wc.cell? ⟨gb167, 1, none⟩ = some (.string a0_1) := (blk_cell BK167.out 1).trans rfl
              have hcz61_2 : wc.cell? ⟨gb167, 2, none⟩ = some (.string a0_2) := (blk_cell BK167.out 2).trans rfl
              have hcz61_3 : wc.cell? ⟨gb167, 3, none⟩ = some (.string a0_3) := (blk_cell BK167.out 3).trans rfl
              have hcz61_4 : wc.cell? ⟨gb167, 4, none⟩ = some (.slice A0_4 l0_4.length c0_4) := (blk_cell BK167.out 4).trans rfl
              have hfz61_0 := blk_frozen BK167.out 0
              have hfz61_1 := blk_frozen BK167.out 1
              have hfz61_2 := blk_frozen BK167.out 2
              have hfz61_3 := blk_frozen BK167.out 3
              have hfz61_4 := blk_frozen BK167.out 4
              go_wp2_with (first | (go_at_call 59; (with_reducible refine (tree_verb.calls kj19 a0_1 false _ A55.out).mono ?_); rintro e w62 ⟨rfl, hb⟩; have n0_ := am (bB (g := gb167) (o := .cells #[.int .i64 a0_0, .string a0_1, .string a0_2, .string a0_3, .slice A0_4 l0_4.length c0_4] 25 (0, 0)) (by (with_reducible repeat (first | refine bN ?_ _ | refine bD ?_ | refine bA ?_ _)); exact BK167.out) hb); have n1_ := am (below_step (by repeat (first | (with_reducible first | exact HB.out | apply lA | apply lN | apply lD | refine below_set ?_ GE167.out) | exact HB.out)) hb); clear BK167; clear HB; have BK167 := n0_; have HB := n1_; clear n0_ n1_; (try clear hb); (try clear hb2); (try clear hk); (try clear hi)))
              go_ret
              exact ⟨by first | rfl | (simp [errW_none, errW_some] <;> rfl) | (simp [*, errW_none, errW_some] <;> rfl), by repeat (first | (with_reducible first | exact HB.out | apply lA | apply lN | apply lD | refine below_set ?_ GE167.out) | exact HB.out)⟩
            ·rw [if_neg c54] at H
             have c54b0 : (a0_3.toList == ([] : List UInt8)) = false := beq_eq_false_iff_ne.mpr c54
             have c54b1 : (a0_3.toList != ([] : List UInt8)) = true := bne_iff_ne.mpr c54
             obtain rfl := Option.some.inj H
             have hcz63_0 : wc.cell? ⟨gb167, 0, none⟩ = some (.int .i64 a0_0) := (blk_cell BK167.out 0).trans rfl
             have hcz63_1 : wc.cell? ⟨gb167, 1, none⟩ = some (.string a0_1) := (blk_cell BK167.out 1).trans rfl
             have hcz63_2 : wc.cell? ⟨gb167, 2, none⟩ = some (.string a0_2) := (blk_cell BK167.out 2).trans rfl
             have hcz63_3 : wc.cell? ⟨gb167, 3, none⟩ = some (.string a0_3) := (blk_cell BK167.out 3).trans rfl
             have hcz63_4 : wc.cell? ⟨gb167, 4, none⟩ = some (.slice A0_4 l0_4.length c0_4) := (blk_cell BK167.out 4).trans rfl
             have hfz63_0 := blk_frozen BK167.out 0
             have hfz63_1 := blk_frozen BK167.out 1
             have hfz63_2 := blk_frozen BK167.out 2
             have hfz63_3 := blk_frozen BK167.out 3
             have hfz63_4 := blk_frozen BK167.out 4
             go_wp2
             go_ret
             exact ⟨by first | rfl | (simp [errW_none, errW_some] <;> rfl) | (simp [*, errW_none, errW_some] <;> rfl), by repeat (first | (with_reducible first | exact HB.out | apply lA | apply lN | apply lD | refine below_set ?_ GE167.out) | exact HB.out)⟩
           ·rw [if_neg c53] at H
            have c53b0 : ((l0_4.length : Int) == 0) = false := by simpa using c53
            (try (have c53b1 : decide ((l0_4.length : Int) = 0) = false := by simpa using c53))
            (try (have c53b2 : ((l0_4.length : Int) == 0) = false := by simpa using c53))
            (try (have c53b3 : ¬ ((l0_4.length : Int) = 0) := by simpa using c53))
            clear c53
            obtain rfl := Option.some.inj H
            go_wp2
            go_ret
            exact ⟨by first | rfl | (simp [errW_none, errW_some] <;> rfl) | (simp [*, errW_none, errW_some] <;> rfl), by repeat (first | (with_reducible first | exact HB.out | apply lA | apply lN | apply lD | refine below_set ?_ GE167.out) | exact HB.out)⟩
          ·rw [if_neg c52] at H
           have c52b0 : (a0_0 == 4) = false := beq_eq_false_iff_ne.mpr c52
           have c52b1 : (a0_0 != 4) = true := bne_iff_ne.mpr c52
           obtain rfl := Option.some.inj H
           go_wp2
           go_ret
           exact ⟨by first | rfl | (simp [errW_none, errW_some] <;> rfl) | (simp [*, errW_none, errW_some] <;> rfl), by repeat (first | (with_reducible first | exact HB.out | apply lA | apply lN | apply lD | refine below_set ?_ GE167.out) | exact HB.out)⟩
end Go.Proofs.Ytdelccahgchadaa.P
end
section
namespace Go.Proofs.Ytdelccahgchadaa.P
open Go.RowKit Go.Proofs.YtdelccahgchadaaW.PrintWords Go.Proofs.YtdelccahgchadaaW.PrintLast Go.Proofs.YtdelccahgchadaaW.PrintMore
attribute [local go_sem] max2_int min2_int max_two min_two max_three min_three max_four min_four   
set_option linter.unusedVariables false
set_option linter.unusedSimpArgs false
def tree_head.f (a0_0 : Int) (a0_1 : ByteArray) (a0_2 : ByteArray) (a0_3 : ByteArray) (l0_4 : List ByteArray) : Option (Bool) := if a0_0 = 5 then (some true) else (if a0_0 = 6 then (some true) else (some (a0_0 == 7)))
set_option maxHeartbeats 8000000 in
set_option maxRecDepth 100000 in
theorem tree_head.calls (a0_0 : Int) (a0_1 : ByteArray) (a0_2 : ByteArray) (a0_3 : ByteArray) (A0_4 : Option Addr) (c0_4 : Nat) (l0_4 : List ByteArray) (r : Bool) (w : World) (hr0_4 : Kd.C Kd.string w A0_4 l0_4.length l0_4) (hc0_4 : l0_4.length ≤ c0_4) (h : tree_head.f a0_0 a0_1 a0_2 a0_3 l0_4 = some r) :
  Calls Try.prog 43 #[.agg #[.int .i64 a0_0, .string a0_1, .string a0_2, .string a0_3, .slice A0_4 l0_4.length c0_4]] w fun e w' => e = .returned (.bool r) ∧ Below w.heap.size w w' := by
 have hu25 := Try.underlying25
 have HR0_4 := am hr0_4
 have HC0_4 := am hc0_4
 clear hr0_4 hc0_4
 have HB := am (Below.refl w.heap.size w)
 have H : (if a0_0 = 5 then (some true) else (if a0_0 = 6 then (some true) else (some (a0_0 == 7)))) = some r := h
 clear h
 by_cases c2 : a0_0 = 5
 ·rw [if_pos c2] at H
  have c2b0 : (a0_0 == 5) = true := beq_iff_eq.mpr c2
  have c2b1 : (a0_0 != 5) = false := bne_eq_false_iff_eq.mpr c2
  clear c2
  obtain rfl := Option.some.inj H
  go_enter Try.func43, Try.ntmps43
  go_wp2_with (first | ((with_reducible refine gate_dst (N := 1) rfl ?_); refine box_event ?hg (N := 1) ?hd (cs := #[.int .i64 a0_0, .string a0_1, .string a0_2, .string a0_3, .slice A0_4 l0_4.length c0_4]) (t := 25) ?hr ?_; (case hd => rfl); (case hg => rfl); (case hr => first | (go_simp; done) | (go_simp; rfl)); intro gb175 hg w3 hbox hb; have n0_ := am (below_step (by repeat (first | (with_reducible first | exact HB.out | apply lA | apply lN | apply lD) | exact HB.out)) hb); have n1_ := am (hbox); have n2_ := am ((by rw [hg]; exact (below_size (by repeat (first | (with_reducible first | exact HB.out | apply lA | apply lN | apply lD) | exact HB.out))) : w.heap.size ≤ gb175)); have n3_ := n2_; clear HB; have HB := n0_; have BK175 := n1_; have GW175 := n2_; have GE175 := n3_; clear n0_ n1_ n2_ n3_; clear hb hbox hg; have hcz4_0 : w3.cell? ⟨gb175, 0, none⟩ = some (.int .i64 a0_0) := (blk_cell BK175.out 0).trans rfl; have hcz4_1 : w3.cell? ⟨gb175, 1, none⟩ = some (.string a0_1) := (blk_cell BK175.out 1).trans rfl; have hcz4_2 : w3.cell? ⟨gb175, 2, none⟩ = some (.string a0_2) := (blk_cell BK175.out 2).trans rfl; have hcz4_3 : w3.cell? ⟨gb175, 3, none⟩ = some (.string a0_3) := (blk_cell BK175.out 3).trans rfl; have hcz4_4 : w3.cell? ⟨gb175, 4, none⟩ = some (.slice A0_4 l0_4.length c0_4) := (blk_cell BK175.out 4).trans rfl; have hfz4_0 := blk_frozen BK175.out 0; have hfz4_1 := blk_frozen BK175.out 1; have hfz4_2 := blk_frozen BK175.out 2; have hfz4_3 := blk_frozen BK175.out 3; have hfz4_4 := blk_frozen BK175.out 4))
  go_ret
  exact ⟨by first | rfl | (simp [errW_none, errW_some] <;> rfl) | (simp [*, errW_none, errW_some] <;> rfl), by repeat (first | (with_reducible first | exact HB.out | apply lA | apply lN | apply lD | refine below_set ?_ GE175.out) | exact HB.out)⟩
 ·rw [if_neg c2] at H
  have c2b0 : (a0_0 == 5) = false := beq_eq_false_iff_ne.mpr c2
  have c2b1 : (a0_0 != 5) = true := bne_iff_ne.mpr c2
  by_cases c5 : a0_0 = 6
  ·rw [if_pos c5] at H
   have c5b0 : (a0_0 == 6) = true := beq_iff_eq.mpr c5
   have c5b1 : (a0_0 != 6) = false := bne_eq_false_iff_eq.mpr c5
   clear c5
   obtain rfl := Option.some.inj H
   go_enter Try.func43, Try.ntmps43
   go_wp2_with (first | ((with_reducible refine gate_dst (N := 1) rfl ?_); refine box_event ?hg (N := 1) ?hd (cs := #[.int .i64 a0_0, .string a0_1, .string a0_2, .string a0_3, .slice A0_4 l0_4.length c0_4]) (t := 25) ?hr ?_; (case hd => rfl); (case hg => rfl); (case hr => first | (go_simp; done) | (go_simp; rfl)); intro gb175 hg w6 hbox hb; have n0_ := am (below_step (by repeat (first | (with_reducible first | exact HB.out | apply lA | apply lN | apply lD) | exact HB.out)) hb); have n1_ := am (hbox); have n2_ := am ((by rw [hg]; exact (below_size (by repeat (first | (with_reducible first | exact HB.out | apply lA | apply lN | apply lD) | exact HB.out))) : w.heap.size ≤ gb175)); have n3_ := n2_; clear HB; have HB := n0_; have BK175 := n1_; have GW175 := n2_; have GE175 := n3_; clear n0_ n1_ n2_ n3_; clear hb hbox hg; have hcz7_0 : w6.cell? ⟨gb175, 0, none⟩ = some (.int .i64 a0_0) := (blk_cell BK175.out 0).trans rfl; have hcz7_1 : w6.cell? ⟨gb175, 1, none⟩ = some (.string a0_1) := (blk_cell BK175.out 1).trans rfl; have hcz7_2 : w6.cell? ⟨gb175, 2, none⟩ = some (.string a0_2) := (blk_cell BK175.out 2).trans rfl; have hcz7_3 : w6.cell? ⟨gb175, 3, none⟩ = some (.string a0_3) := (blk_cell BK175.out 3).trans rfl; have hcz7_4 : w6.cell? ⟨gb175, 4, none⟩ = some (.slice A0_4 l0_4.length c0_4) := (blk_cell BK175.out 4).trans rfl; have hfz7_0 := blk_frozen BK175.out 0; have hfz7_1 := blk_frozen BK175.out 1; have hfz7_2 := blk_frozen BK175.out 2; have hfz7_3 := blk_frozen BK175.out 3; have hfz7_4 := blk_frozen BK175.out 4))
   go_ret
   exact ⟨by first | rfl | (simp [errW_none, errW_some] <;> rfl) | (simp [*, errW_none, errW_some] <;> rfl), by repeat (first | (with_reducible first | exact HB.out | apply lA | apply lN | apply lD | refine below_set ?_ GE175.out) | exact HB.out)⟩
  ·rw [if_neg c5] at H
   have c5b0 : (a0_0 == 6) = false := beq_eq_false_iff_ne.mpr c5
   have c5b1 : (a0_0 != 6) = true := bne_iff_ne.mpr c5
   obtain rfl := Option.some.inj H
   go_enter Try.func43, Try.ntmps43
   go_wp2_with (first | ((with_reducible refine gate_dst (N := 1) rfl ?_); refine box_event ?hg (N := 1) ?hd (cs := #[.int .i64 a0_0, .string a0_1, .string a0_2, .string a0_3, .slice A0_4 l0_4.length c0_4]) (t := 25) ?hr ?_; (case hd => rfl); (case hg => rfl); (case hr => first | (go_simp; done) | (go_simp; rfl)); intro gb175 hg w8 hbox hb; have n0_ := am (below_step (by repeat (first | (with_reducible first | exact HB.out | apply lA | apply lN | apply lD) | exact HB.out)) hb); have n1_ := am (hbox); have n2_ := am ((by rw [hg]; exact (below_size (by repeat (first | (with_reducible first | exact HB.out | apply lA | apply lN | apply lD) | exact HB.out))) : w.heap.size ≤ gb175)); have n3_ := n2_; clear HB; have HB := n0_; have BK175 := n1_; have GW175 := n2_; have GE175 := n3_; clear n0_ n1_ n2_ n3_; clear hb hbox hg; have hcz9_0 : w8.cell? ⟨gb175, 0, none⟩ = some (.int .i64 a0_0) := (blk_cell BK175.out 0).trans rfl; have hcz9_1 : w8.cell? ⟨gb175, 1, none⟩ = some (.string a0_1) := (blk_cell BK175.out 1).trans rfl; have hcz9_2 : w8.cell? ⟨gb175, 2, none⟩ = some (.string a0_2) := (blk_cell BK175.out 2).trans rfl; have hcz9_3 : w8.cell? ⟨gb175, 3, none⟩ = some (.string a0_3) := (blk_cell BK175.out 3).trans rfl; have hcz9_4 : w8.cell? ⟨gb175, 4, none⟩ = some (.slice A0_4 l0_4.length c0_4) := (blk_cell BK175.out 4).trans rfl; have hfz9_0 := blk_frozen BK175.out 0; have hfz9_1 := blk_frozen BK175.out 1; have hfz9_2 := blk_frozen BK175.out 2; have hfz9_3 := blk_frozen BK175.out 3; have hfz9_4 := blk_frozen BK175.out 4))
   go_ret
   exact ⟨by first | rfl | (simp [errW_none, errW_some] <;> rfl) | (simp [*, errW_none, errW_some] <;> rfl), by repeat (first | (with_reducible first | exact HB.out | apply lA | apply lN | apply lD | refine below_set ?_ GE175.out) | exact HB.out)⟩
mutual
def tree_May.j0 : Nat → List (S25) → Bool → Option (Bool)
 | 0, _, _ => none
 | k + 1, x0, x24 => if x24 = true then (some false) else (tree_May.l0 k x0 (x0.length : Int) 0)
def tree_May.l0 : Nat → List (S25) → Int → Int → Option (Bool)
 | 0, _, _, _ => none
 | k + 1, x25, x26, x27 => if x27 < x26 then (if 0 ≤ x27 then (if x27 < (x25.length : Int) then ((tree_may.f k ((rd_T25 x25 x27).f0) ((rd_T25 x25 x27).f1) ((rd_T25 x25 x27).f2) ((rd_T25 x25 x27).f3) ((rd_T25 x25 x27).f4)).bind fun t181 => (if t181 = true then ((tree_head.f ((rd_T25 x25 x27).f0) ((rd_T25 x25 x27).f1) ((rd_T25 x25 x27).f2) ((rd_T25 x25 x27).f3) ((rd_T25 x25 x27).f4)).bind fun t182 => (if t182 = true then (if x27 > 0 then (some false) else (tree_May.l0 k x25 x26 (wrap64 (x27 + 1)))) else (tree_May.l0 k x25 x26 (wrap64 (x27 + 1))))) else (some false))) else (none)) else (none)) else (some true)
end
def tree_May.f (k : Nat) (l0 : List (S25)) : Option (Bool) := (tree_End.f k l0 0).bind fun bt176 => (if bt176.2 = true then (if bt176.1 = (l0.length : Int) then ((tree_Depth.f k l0).bind fun t178 => (tree_May.j0 k l0 (decide (t178 > 40)))) else (tree_May.j0 k l0 true)) else (tree_May.j0 k l0 true))
theorem tree_May.mono_l : ∀ k, (∀ y0 y1, LeO (tree_May.j0 k y0 y1) (tree_May.j0 (k + 1) y0 y1)) ∧ (∀ y0 y1 y2, LeO (tree_May.l0 k y0 y1 y2) (tree_May.l0 (k + 1) y0 y1 y2))
 | 0 => ⟨fun _ _ r h => by simp [tree_May.j0] at h, fun _ _ _ r h => by simp [tree_May.l0] at h⟩
 | k + 1 => by
  obtain ⟨ih0, ih1⟩ := tree_May.mono_l k
  refine ⟨?_, ?_⟩
  ·intro y0 y1
   unfold tree_May.j0
   repeat' first
   | (with_reducible exact ih0 _ _)
   | (with_reducible exact ih1 _ _ _)
   | (with_reducible exact tree_Depth.mono _ _)
   | (with_reducible exact tree_End.mono _ _ _)
   | (with_reducible exact tree_may.mono _ _ _ _ _ _)
   | (with_reducible exact LeO.refl _)
   | (with_reducible exact LeO.none _)
   | (with_reducible refine LeO.ite ?_ ?_)
   | (with_reducible refine LeO.bind ?_ (fun _ => ?_))
   | exact ih0 _ _
   | exact ih1 _ _ _
   | exact tree_Depth.mono _ _
   | exact tree_End.mono _ _ _
   | exact tree_may.mono _ _ _ _ _ _
   | exact LeO.none _
   | refine LeO.ite ?_ ?_
   | refine LeO.bind ?_ (fun _ => ?_)
  ·intro y0 y1 y2
   unfold tree_May.l0
   repeat' first
   | (with_reducible exact ih0 _ _)
   | (with_reducible exact ih1 _ _ _)
   | (with_reducible exact tree_Depth.mono _ _)
   | (with_reducible exact tree_End.mono _ _ _)
   | (with_reducible exact tree_may.mono _ _ _ _ _ _)
   | (with_reducible exact LeO.refl _)
   | (with_reducible exact LeO.none _)
   | (with_reducible refine LeO.ite ?_ ?_)
   | (with_reducible refine LeO.bind ?_ (fun _ => ?_))
   | exact ih0 _ _
   | exact ih1 _ _ _
   | exact tree_Depth.mono _ _
   | exact tree_End.mono _ _ _
   | exact tree_may.mono _ _ _ _ _ _
   | exact LeO.none _
   | refine LeO.ite ?_ ?_
   | refine LeO.bind ?_ (fun _ => ?_)
theorem tree_May.mono : ∀ a0 k, LeO (tree_May.f k a0) (tree_May.f (k + 1) a0) := by
 intro a0 k
 obtain ⟨ih0, ih1⟩ := tree_May.mono_l k
 unfold tree_May.f
 repeat' first
   | (with_reducible exact ih0 _ _)
   | (with_reducible exact ih1 _ _ _)
   | (with_reducible exact tree_Depth.mono _ _)
   | (with_reducible exact tree_End.mono _ _ _)
   | (with_reducible exact tree_may.mono _ _ _ _ _ _)
   | (with_reducible exact LeO.refl _)
   | (with_reducible exact LeO.none _)
   | (with_reducible refine LeO.ite ?_ ?_)
   | (with_reducible refine LeO.bind ?_ (fun _ => ?_))
   | exact ih0 _ _
   | exact ih1 _ _ _
   | exact tree_Depth.mono _ _
   | exact tree_End.mono _ _ _
   | exact tree_may.mono _ _ _ _ _ _
   | exact LeO.none _
   | refine LeO.ite ?_ ?_
   | refine LeO.bind ?_ (fun _ => ?_)
set_option maxHeartbeats 8000000 in
set_option maxRecDepth 100000 in
theorem tree_May.calls (k : Nat) (A0 : Option Addr) (c0 : Nat) (l0 : List (S25)) (r : Bool) (w : World) (hr0 : Kd.C k25 w A0 l0.length l0) (hc0 : l0.length ≤ c0) (h : tree_May.f k l0 = some r) :
  Calls Try.prog 28 #[.slice A0 l0.length c0] w fun e w' => e = .returned (.bool r) ∧ Below w.heap.size w w' := by
 have hu25 := Try.underlying25
 have HR0 := am hr0
 have HC0 := am hc0
 clear hr0 hc0
 have HB := am (Below.refl w.heap.size w)
 have H : ((tree_End.f k l0 0).bind fun bt176 => (if bt176.2 = true then (if bt176.1 = (l0.length : Int) then ((tree_Depth.f k l0).bind fun t178 => (tree_May.j0 k l0 (decide (t178 > 40)))) else (tree_May.j0 k l0 true)) else (tree_May.j0 k l0 true))) = some r := h
 clear h
 replace H := Option.bind_eq_some_iff.mp H
 obtain ⟨⟨t176, t177⟩, A20, H⟩ := H
 replace H : (if t177 = true then (if t176 = (l0.length : Int) then ((tree_Depth.f k l0).bind fun t178 => (tree_May.j0 k l0 (decide (t178 > 40)))) else (tree_May.j0 k l0 true)) else (tree_May.j0 k l0 true)) = some r := H
 have A2 := am A20
 clear A20
 have HC3 := am H
 clear H
 go_enter Try.func28, Try.ntmps28
 go_upto_region 2 with (first | ((with_reducible refine gate_callee (f := 19) rfl ?_); refine goesL_ (some 9) rfl rfl Try.func19 (by kernel_rfl) rfl #[.slice A0 l0.length c0, .int .i64 0] rfl (by (try simp only [List.map_toArray, List.map_cons, List.map_nil]); first | done | rfl | (simp only [List.length_drop, List.length_take]; rfl)) ?_; (with_reducible refine (tree_End.calls k _ _ l0 0 t176 t177 _ ?side1 ?side2 A2.out).mono ?_); (case side1 => repeat (first | exact HR0.out | (with_reducible refine Kd.C_alloc ?_ _) | (with_reducible refine Kd.C_drewN ?_ _) | (with_reducible refine Kd.C_drew ?_))); (case side2 => exact HC0.out); rintro e w4 ⟨rfl, hb⟩; refine ⟨_, rfl, ?_⟩; have n0_ := am (below_step (by repeat (first | (with_reducible first | exact HB.out | apply lA | apply lN | apply lD) | exact HB.out)) hb); clear HB; have HB := n0_; clear n0_; (try clear hb); (try clear hb2); (try clear hk); (try clear hi)))
 (try simp only [Act.put, zT, z0, zS])
 go_cut [24] (fun v24 wc => ∃ (kq : Nat) (x24_2 : Bool), v24 = .bool x24_2 ∧ Aside0 (tree_May.j0 kq l0 x24_2 = some r) ∧ Aside0 (kq ≤ k) ∧ Aside0 (Below w.heap.size w wc))
 case first =>
  have H := HC3.out
  clear HC3
  by_cases c5 : t177 = true
  ·subst c5
   have H1 : (if t176 = (l0.length : Int) then ((tree_Depth.f k l0).bind fun t178 => (tree_May.j0 k l0 (decide (t178 > 40)))) else (tree_May.j0 k l0 true)) = some r := by rw [if_pos rfl] at H; exact H
   clear H
   have H := H1
   clear H1
   by_cases c6 : t176 = (l0.length : Int)
   ·rw [if_pos c6] at H
    have c6b0 : (t176 == (l0.length : Int)) = true := beq_iff_eq.mpr c6
    have c6b1 : (t176 != (l0.length : Int)) = false := bne_eq_false_iff_eq.mpr c6
    clear c6
    (first | rw [c6b0] | (simp only [i64_w, i32_w]; rw [c6b0]) | skip)
    replace H := Option.bind_eq_some_iff.mp H
    obtain ⟨t178, A70, H⟩ := H
    replace H : (tree_May.j0 k l0 (decide (t178 > 40))) = some r := H
    have A7 := am A70
    clear A70
    have H' := am H
    clear H
    go_wp2_with (first | (go_at_call 26; (with_reducible refine (tree_Depth.calls k _ _ l0 t178 _ ?side1 ?side2 A7.out).mono ?_); (case side1 => repeat (first | exact (Kd.C_below HR0.out HB.out) | (with_reducible refine Kd.C_alloc ?_ _) | (with_reducible refine Kd.C_drewN ?_ _) | (with_reducible refine Kd.C_drew ?_))); (case side2 => exact HC0.out); rintro e w8 ⟨rfl, hb⟩; have n0_ := am (below_step (by repeat (first | (with_reducible first | exact HB.out | apply lA | apply lN | apply lD) | exact HB.out)) hb); clear HB; have HB := n0_; clear n0_; (try clear hb); (try clear hb2); (try clear hk); (try clear hi)))
    go_meet
    case rel => exact ⟨_, (decide (t178 > 40)), (by first | rfl | (simp; done) | (simp [*]; done)), H', ⟨by first | omega | exact Nat.le_refl _⟩, ⟨by repeat (first | (with_reducible first | exact HB.out | apply lA | apply lN | apply lD) | exact HB.out)⟩⟩
   ·rw [if_neg c6] at H
    have c6b0 : (t176 == (l0.length : Int)) = false := beq_eq_false_iff_ne.mpr c6
    have c6b1 : (t176 != (l0.length : Int)) = true := bne_iff_ne.mpr c6
    (first | rw [c6b0] | (simp only [i64_w, i32_w]; rw [c6b0]) | skip)
    have H' := am H
    clear H
    go_wp2
    go_meet
    case rel => exact ⟨_, (true), (by first | rfl | (simp; done) | (simp [*]; done)), H', ⟨by first | omega | exact Nat.le_refl _⟩, ⟨by repeat (first | (with_reducible first | exact HB.out | apply lA | apply lN | apply lD) | exact HB.out)⟩⟩
  ·replace c5 := Bool.eq_false_iff.mpr c5
   subst c5
   have H1 : (tree_May.j0 k l0 true) = some r := by rw [if_neg (show ¬ (false = true) by decide)] at H; exact H
   clear H
   have H := H1
   clear H1
   have H' := am H
   clear H
   go_wp2
   go_meet
   case rel => exact ⟨_, (true), (by first | rfl | (simp; done) | (simp [*]; done)), H', ⟨by first | omega | exact Nat.le_refl _⟩, ⟨by repeat (first | (with_reducible first | exact HB.out | apply lA | apply lN | apply lD) | exact HB.out)⟩⟩
 case rest =>
  clear HC3
  try clear c1
  try clear c2
  try clear p2
  try clear c5
  try clear c6
  try clear c6b0
  try clear c6b1
  obtain ⟨kq, x24_2, rfl, HA, HJ2, HB⟩ := hcut
  cases kq with
  | zero => exact absurd HA.out (by simp [tree_May.j0])
  | succ kj2 =>
   have H := HA.out
   clear HA
   simp only [tree_May.j0] at H
   by_cases c9 : x24_2 = true
   ·subst c9
    have H1 : (some false) = some r := by rw [if_pos rfl] at H; exact H
    clear H
    have H := H1
    clear H1
    obtain rfl := Option.some.inj H
    go_wp2
    go_ret
    exact ⟨by first | rfl | (simp [errW_none, errW_some] <;> rfl) | (simp [*, errW_none, errW_some] <;> rfl), by repeat (first | (with_reducible first | exact HB.out | apply lA | apply lN | apply lD) | exact HB.out)⟩
   ·replace c9 := Bool.eq_false_iff.mpr c9
    subst c9
    have H1 : (tree_May.l0 kj2 l0 (l0.length : Int) 0) = some r := by rw [if_neg (show ¬ (false = true) by decide)] at H; exact H
    clear H
    have H := H1
    clear H1
    have H' := am H
    clear H
    go_wp2
    go_loopg [27] kj2 (fun kq v27 w' => ∃ (x27_2 : Int), v27 = .int .i64 x27_2 ∧ Aside0 (tree_May.l0 kq l0 (l0.length : Int) x27_2 = some r) ∧ Aside0 (kq ≤ kj2) ∧ Aside0 (Below w.heap.size w w'))
    case atStart => exact ⟨(0), (by first | rfl | (simp; done) | (simp [*]; done)), H', ⟨Nat.le_refl _⟩, ⟨by repeat (first | (with_reducible first | exact HB.out | apply lA | apply lN | apply lD) | exact HB.out)⟩⟩
    case round =>
     clear H'
     try clear c1
     try clear c2
     try clear p2
     try clear c5
     try clear c6
     try clear c6b0
     try clear c6b1
     try clear c9
     try clear p2
     obtain ⟨x27_2, rfl, HA, HK2, HB⟩ := hrel
     cases gk with
     | zero => exact absurd HA.out (by simp [tree_May.l0])
     | succ k2 =>
      have H := HA.out
      clear HA
      simp only [tree_May.l0] at H
      by_cases c10 : x27_2 < (l0.length : Int)
      ·rw [if_pos c10] at H
       have c10b0 : decide (x27_2 < (l0.length : Int)) = true := decide_eq_true c10
       clear c10
       by_cases c11 : 0 ≤ x27_2
       ·rw [if_pos c11] at H
        have c11b0 : decide (0 ≤ x27_2) = true := decide_eq_true c11
        clear c11
        by_cases c12 : x27_2 < (l0.length : Int)
        ·rw [if_pos c12] at H
         have c12b0 : decide (x27_2 < (l0.length : Int)) = true := decide_eq_true c12
         clear c12
         replace H := Option.bind_eq_some_iff.mp H
         obtain ⟨t181, A130, H⟩ := H
         replace H : (if t181 = true then ((tree_head.f ((rd_T25 l0 x27_2).f0) ((rd_T25 l0 x27_2).f1) ((rd_T25 l0 x27_2).f2) ((rd_T25 l0 x27_2).f3) ((rd_T25 l0 x27_2).f4)).bind fun t182 => (if t182 = true then (if x27_2 > 0 then (some false) else (tree_May.l0 k2 l0 (l0.length : Int) (wrap64 (x27_2 + 1)))) else (tree_May.l0 k2 l0 (l0.length : Int) (wrap64 (x27_2 + 1))))) else (some false)) = some r := H
         have A13 := am A130
         clear A130
         by_cases c14 : t181 = true
         ·subst c14
          have H1 : ((tree_head.f ((rd_T25 l0 x27_2).f0) ((rd_T25 l0 x27_2).f1) ((rd_T25 l0 x27_2).f2) ((rd_T25 l0 x27_2).f3) ((rd_T25 l0 x27_2).f4)).bind fun t182 => (if t182 = true then (if x27_2 > 0 then (some false) else (tree_May.l0 k2 l0 (l0.length : Int) (wrap64 (x27_2 + 1)))) else (tree_May.l0 k2 l0 (l0.length : Int) (wrap64 (x27_2 + 1))))) = some r := by rw [if_pos rfl] at H; exact H
          clear H
          have H := H1
          clear H1
          replace H := Option.bind_eq_some_iff.mp H
          obtain ⟨t182, A150, H⟩ := H
          replace H : (if t182 = true then (if x27_2 > 0 then (some false) else (tree_May.l0 k2 l0 (l0.length : Int) (wrap64 (x27_2 + 1)))) else (tree_May.l0 k2 l0 (l0.length : Int) (wrap64 (x27_2 + 1)))) = some r := H
          have A15 := am A150
          clear A150
          by_cases c16 : t182 = true
          ·subst c16
           have H1 : (if x27_2 > 0 then (some false) else (tree_May.l0 k2 l0 (l0.length : Int) (wrap64 (x27_2 + 1)))) = some r := by rw [if_pos rfl] at H; exact H
           clear H
           have H := H1
           clear H1
           by_cases c17 : x27_2 > 0
           ·rw [if_pos c17] at H
            have c17b0 : decide (0 < x27_2) = true := decide_eq_true c17
            clear c17
            obtain rfl := Option.some.inj H
            have p179 : 0 ≤ (x27_2 : Int) := of_decide_eq_true (by first | (with_reducible assumption) | assumption)
            have q179 : x27_2 < (l0.length : Int) := of_decide_eq_true (by first | (with_reducible assumption) | assumption)
            obtain ⟨ad179, A179_4, c179_4, e179, hx179_0, hx179_1, hx179_2, hx179_3, hx179_4, hl179_4, hi179_4⟩ := at_T25 HR0.out x27_2 p179 q179
            cases e179
            replace hx179_0 := (HB.out.cell (World.block_lt_of_cell? w _ hx179_0)).trans hx179_0
            replace hx179_1 := (HB.out.cell (World.block_lt_of_cell? w _ hx179_1)).trans hx179_1
            replace hx179_2 := (HB.out.cell (World.block_lt_of_cell? w _ hx179_2)).trans hx179_2
            replace hx179_3 := (HB.out.cell (World.block_lt_of_cell? w _ hx179_3)).trans hx179_3
            replace hx179_4 := (HB.out.cell (World.block_lt_of_cell? w _ hx179_4)).trans hx179_4
            have HR179_4 := am hi179_4
            have HC179_4 := am hl179_4
            clear hi179_4 hl179_4
            replace p179 := eq_true p179
            replace q179 := eq_true q179
            go_wp2_with (first | ((with_reducible refine gate_dst (N := 6) rfl ?_); (try (refine gate_guard (by rfl) ?_; dsimp only)); refine box_event ?hg (N := 6) ?hd (cs := #[.int .i64 0, .string (⟨#[]⟩ : ByteArray), .string (⟨#[]⟩ : ByteArray), .string (⟨#[]⟩ : ByteArray), .slice none 0 0]) (t := 25) ?hr ?_; (case hd => rfl); (case hg => rfl); (case hr => first | (go_simp; done) | (go_simp; rfl)); intro gb180 hg w18 hbox hb; have n0_ := am (below_step (by repeat (first | (with_reducible first | exact HB.out | apply lA | apply lN | apply lD) | exact HB.out)) hb); have n1_ := am (hbox); have n2_ := am ((by rw [hg]; exact (below_size (by repeat (first | (with_reducible first | exact HB.out | apply lA | apply lN | apply lD) | exact HB.out))) : w.heap.size ≤ gb180)); have n3_ := n2_; clear HB; have HB := n0_; have BK180 := n1_; have GW180 := n2_; have GE180 := n3_; clear n0_ n1_ n2_ n3_; clear hb hbox hg; have hcz19_0 : w18.cell? ⟨gb180, 0, none⟩ = some (.int .i64 0) := (blk_cell BK180.out 0).trans rfl; have hcz19_1 : w18.cell? ⟨gb180, 1, none⟩ = some (.string (⟨#[]⟩ : ByteArray)) := (blk_cell BK180.out 1).trans rfl; have hcz19_2 : w18.cell? ⟨gb180, 2, none⟩ = some (.string (⟨#[]⟩ : ByteArray)) := (blk_cell BK180.out 2).trans rfl; have hcz19_3 : w18.cell? ⟨gb180, 3, none⟩ = some (.string (⟨#[]⟩ : ByteArray)) := (blk_cell BK180.out 3).trans rfl; have hcz19_4 : w18.cell? ⟨gb180, 4, none⟩ = some (.slice none 0 0) := (blk_cell BK180.out 4).trans rfl; have hfz19_0 := blk_frozen BK180.out 0; have hfz19_1 := blk_frozen BK180.out 1; have hfz19_2 := blk_frozen BK180.out 2; have hfz19_3 := blk_frozen BK180.out 3; have hfz19_4 := blk_frozen BK180.out 4) | ((with_reducible refine gate_callee (f := 42) rfl ?_); refine goesL_ (some 33) rfl rfl Try.func42 (by kernel_rfl) rfl #[.agg #[.int .i64 ((rd_T25 l0 x27_2).f0), .string ((rd_T25 l0 x27_2).f1), .string ((rd_T25 l0 x27_2).f2), .string ((rd_T25 l0 x27_2).f3), .slice A179_4 ((rd_T25 l0 x27_2).f4).length c179_4]] rfl (by (try simp only [List.map_toArray, List.map_cons, List.map_nil]); first | done | rfl | (simp only [List.length_drop, List.length_take]; rfl)) ?_; (with_reducible refine (tree_may.calls k2 ((rd_T25 l0 x27_2).f0) ((rd_T25 l0 x27_2).f1) ((rd_T25 l0 x27_2).f2) ((rd_T25 l0 x27_2).f3) _ _ ((rd_T25 l0 x27_2).f4) true _ ?side1 ?side2 A13.out).mono ?_); (case side1 => exact Kd.C_below HR179_4.out (by repeat (first | (with_reducible first | exact HB.out | apply lA | apply lN | apply lD | refine below_set ?_ GE180.out) | exact HB.out))); (case side2 => exact HC179_4.out); rintro e w20 ⟨rfl, hb⟩; refine ⟨_, rfl, ?_⟩; have n0_ := am (bB (g := gb180) (o := .cells #[.int .i64 ((rd_T25 l0 x27_2).f0), .string ((rd_T25 l0 x27_2).f1), .string ((rd_T25 l0 x27_2).f2), .string ((rd_T25 l0 x27_2).f3), .slice A179_4 ((rd_T25 l0 x27_2).f4).length c179_4] 25 (0, 0)) (by (with_reducible repeat (first | refine bN ?_ _ | refine bD ?_ | refine bA ?_ _)); refine blk_put (cs := #[.int .i64 ((rd_T25 l0 x27_2).f0), .string ((rd_T25 l0 x27_2).f1), .string ((rd_T25 l0 x27_2).f2), .string ((rd_T25 l0 x27_2).f3), .slice none 0 0]) ?_ 4 _ rfl; (with_reducible repeat (first | refine bN ?_ _ | refine bD ?_ | refine bA ?_ _)); refine blk_put (cs := #[.int .i64 ((rd_T25 l0 x27_2).f0), .string ((rd_T25 l0 x27_2).f1), .string ((rd_T25 l0 x27_2).f2), .string (⟨#[]⟩ : ByteArray), .slice none 0 0]) ?_ 3 _ rfl; (with_reducible repeat (first | refine bN ?_ _ | refine bD ?_ | refine bA ?_ _)); refine blk_put (cs := #[.int .i64 ((rd_T25 l0 x27_2).f0), .string ((rd_T25 l0 x27_2).f1), .string (⟨#[]⟩ : ByteArray), .string (⟨#[]⟩ : ByteArray), .slice none 0 0]) ?_ 2 _ rfl; (with_reducible repeat (first | refine bN ?_ _ | refine bD ?_ | refine bA ?_ _)); refine blk_put (cs := #[.int .i64 ((rd_T25 l0 x27_2).f0), .string (⟨#[]⟩ : ByteArray), .string (⟨#[]⟩ : ByteArray), .string (⟨#[]⟩ : ByteArray), .slice none 0 0]) ?_ 1 _ rfl; (with_reducible repeat (first | refine bN ?_ _ | refine bD ?_ | refine bA ?_ _)); refine blk_put (cs := #[.int .i64 0, .string (⟨#[]⟩ : ByteArray), .string (⟨#[]⟩ : ByteArray), .string (⟨#[]⟩ : ByteArray), .slice none 0 0]) ?_ 0 _ rfl; (with_reducible repeat (first | refine bN ?_ _ | refine bD ?_ | refine bA ?_ _)); exact BK180.out) hb); have n1_ := am (below_step (by repeat (first | (with_reducible first | exact HB.out | apply lA | apply lN | apply lD | refine below_set ?_ GE180.out) | exact HB.out)) hb); clear BK180; clear HB; have BK180 := n0_; have HB := n1_; clear n0_ n1_; (try clear hb); (try clear hb2); (try clear hk); (try clear hi); have hcz21_0 : w20.cell? ⟨gb180, 0, none⟩ = some (.int .i64 ((rd_T25 l0 x27_2).f0)) := (blk_cell BK180.out 0).trans rfl; have hcz21_1 : w20.cell? ⟨gb180, 1, none⟩ = some (.string ((rd_T25 l0 x27_2).f1)) := (blk_cell BK180.out 1).trans rfl; have hcz21_2 : w20.cell? ⟨gb180, 2, none⟩ = some (.string ((rd_T25 l0 x27_2).f2)) := (blk_cell BK180.out 2).trans rfl; have hcz21_3 : w20.cell? ⟨gb180, 3, none⟩ = some (.string ((rd_T25 l0 x27_2).f3)) := (blk_cell BK180.out 3).trans rfl; have hcz21_4 : w20.cell? ⟨gb180, 4, none⟩ = some (.slice A179_4 ((rd_T25 l0 x27_2).f4).length c179_4) := (blk_cell BK180.out 4).trans rfl; have hfz21_0 := blk_frozen BK180.out 0; have hfz21_1 := blk_frozen BK180.out 1; have hfz21_2 := blk_frozen BK180.out 2; have hfz21_3 := blk_frozen BK180.out 3; have hfz21_4 := blk_frozen BK180.out 4) | (go_at_call 43; (with_reducible refine (tree_head.calls ((rd_T25 l0 x27_2).f0) ((rd_T25 l0 x27_2).f1) ((rd_T25 l0 x27_2).f2) ((rd_T25 l0 x27_2).f3) _ _ ((rd_T25 l0 x27_2).f4) true _ ?side1 ?side2 A15.out).mono ?_); (case side1 => repeat (first | exact (Kd.C_below HR179_4.out HB.out) | (with_reducible refine Kd.C_alloc ?_ _) | (with_reducible refine Kd.C_drewN ?_ _) | (with_reducible refine Kd.C_drew ?_))); (case side2 => exact HC179_4.out); rintro e w22 ⟨rfl, hb⟩; have n0_ := am (bB (g := gb180) (o := .cells #[.int .i64 ((rd_T25 l0 x27_2).f0), .string ((rd_T25 l0 x27_2).f1), .string ((rd_T25 l0 x27_2).f2), .string ((rd_T25 l0 x27_2).f3), .slice A179_4 ((rd_T25 l0 x27_2).f4).length c179_4] 25 (0, 0)) (by (with_reducible repeat (first | refine bN ?_ _ | refine bD ?_ | refine bA ?_ _)); exact BK180.out) hb); have n1_ := am (below_step (by repeat (first | (with_reducible first | exact HB.out | apply lA | apply lN | apply lD | refine below_set ?_ GE180.out) | exact HB.out)) hb); clear BK180; clear HB; have BK180 := n0_; have HB := n1_; clear n0_ n1_; (try clear hb); (try clear hb2); (try clear hk); (try clear hi)))
            go_ret
            exact ⟨by first | rfl | (simp [errW_none, errW_some] <;> rfl) | (simp [*, errW_none, errW_some] <;> rfl), by repeat (first | (with_reducible first | exact HB.out | apply lA | apply lN | apply lD | refine below_set ?_ GE180.out) | exact HB.out)⟩
           ·rw [if_neg c17] at H
            have c17b0 : decide (0 < x27_2) = false := decide_eq_false c17
            clear c17
            have H' := am H
            clear H
            have p179 : 0 ≤ (x27_2 : Int) := of_decide_eq_true (by first | (with_reducible assumption) | assumption)
            have q179 : x27_2 < (l0.length : Int) := of_decide_eq_true (by first | (with_reducible assumption) | assumption)
            obtain ⟨ad179, A179_4, c179_4, e179, hx179_0, hx179_1, hx179_2, hx179_3, hx179_4, hl179_4, hi179_4⟩ := at_T25 HR0.out x27_2 p179 q179
            cases e179
            replace hx179_0 := (HB.out.cell (World.block_lt_of_cell? w _ hx179_0)).trans hx179_0
            replace hx179_1 := (HB.out.cell (World.block_lt_of_cell? w _ hx179_1)).trans hx179_1
            replace hx179_2 := (HB.out.cell (World.block_lt_of_cell? w _ hx179_2)).trans hx179_2
            replace hx179_3 := (HB.out.cell (World.block_lt_of_cell? w _ hx179_3)).trans hx179_3
            replace hx179_4 := (HB.out.cell (World.block_lt_of_cell? w _ hx179_4)).trans hx179_4
            have HR179_4 := am hi179_4
            have HC179_4 := am hl179_4
            clear hi179_4 hl179_4
            replace p179 := eq_true p179
            replace q179 := eq_true q179
            go_wp2_with (first | ((with_reducible refine gate_dst (N := 6) rfl ?_); (try (refine gate_guard (by rfl) ?_; dsimp only)); refine box_event ?hg (N := 6) ?hd (cs := #[.int .i64 0, .string (⟨#[]⟩ : ByteArray), .string (⟨#[]⟩ : ByteArray), .string (⟨#[]⟩ : ByteArray), .slice none 0 0]) (t := 25) ?hr ?_; (case hd => rfl); (case hg => rfl); (case hr => first | (go_simp; done) | (go_simp; rfl)); intro gb180 hg w23 hbox hb; have n0_ := am (below_step (by repeat (first | (with_reducible first | exact HB.out | apply lA | apply lN | apply lD) | exact HB.out)) hb); have n1_ := am (hbox); have n2_ := am ((by rw [hg]; exact (below_size (by repeat (first | (with_reducible first | exact HB.out | apply lA | apply lN | apply lD) | exact HB.out))) : w.heap.size ≤ gb180)); have n3_ := n2_; clear HB; have HB := n0_; have BK180 := n1_; have GW180 := n2_; have GE180 := n3_; clear n0_ n1_ n2_ n3_; clear hb hbox hg; have hcz24_0 : w23.cell? ⟨gb180, 0, none⟩ = some (.int .i64 0) := (blk_cell BK180.out 0).trans rfl; have hcz24_1 : w23.cell? ⟨gb180, 1, none⟩ = some (.string (⟨#[]⟩ : ByteArray)) := (blk_cell BK180.out 1).trans rfl; have hcz24_2 : w23.cell? ⟨gb180, 2, none⟩ = some (.string (⟨#[]⟩ : ByteArray)) := (blk_cell BK180.out 2).trans rfl; have hcz24_3 : w23.cell? ⟨gb180, 3, none⟩ = some (.string (⟨#[]⟩ : ByteArray)) := (blk_cell BK180.out 3).trans rfl; have hcz24_4 : w23.cell? ⟨gb180, 4, none⟩ = some (.slice none 0 0) := (blk_cell BK180.out 4).trans rfl; have hfz24_0 := blk_frozen BK180.out 0; have hfz24_1 := blk_frozen BK180.out 1; have hfz24_2 := blk_frozen BK180.out 2; have hfz24_3 := blk_frozen BK180.out 3; have hfz24_4 := blk_frozen BK180.out 4) | ((with_reducible refine gate_callee (f := 42) rfl ?_); refine goesL_ (some 33) rfl rfl Try.func42 (by kernel_rfl) rfl #[.agg #[.int .i64 ((rd_T25 l0 x27_2).f0), .string ((rd_T25 l0 x27_2).f1), .string ((rd_T25 l0 x27_2).f2), .string ((rd_T25 l0 x27_2).f3), .slice A179_4 ((rd_T25 l0 x27_2).f4).length c179_4]] rfl (by (try simp only [List.map_toArray, List.map_cons, List.map_nil]); first | done | rfl | (simp only [List.length_drop, List.length_take]; rfl)) ?_; (with_reducible refine (tree_may.calls k2 ((rd_T25 l0 x27_2).f0) ((rd_T25 l0 x27_2).f1) ((rd_T25 l0 x27_2).f2) ((rd_T25 l0 x27_2).f3) _ _ ((rd_T25 l0 x27_2).f4) true _ ?side1 ?side2 A13.out).mono ?_); (case side1 => exact Kd.C_below HR179_4.out (by repeat (first | (with_reducible first | exact HB.out | apply lA | apply lN | apply lD | refine below_set ?_ GE180.out) | exact HB.out))); (case side2 => exact HC179_4.out); rintro e w25 ⟨rfl, hb⟩; refine ⟨_, rfl, ?_⟩; have n0_ := am (bB (g := gb180) (o := .cells #[.int .i64 ((rd_T25 l0 x27_2).f0), .string ((rd_T25 l0 x27_2).f1), .string ((rd_T25 l0 x27_2).f2), .string ((rd_T25 l0 x27_2).f3), .slice A179_4 ((rd_T25 l0 x27_2).f4).length c179_4] 25 (0, 0)) (by (with_reducible repeat (first | refine bN ?_ _ | refine bD ?_ | refine bA ?_ _)); refine blk_put (cs := #[.int .i64 ((rd_T25 l0 x27_2).f0), .string ((rd_T25 l0 x27_2).f1), .string ((rd_T25 l0 x27_2).f2), .string ((rd_T25 l0 x27_2).f3), .slice none 0 0]) ?_ 4 _ rfl; (with_reducible repeat (first | refine bN ?_ _ | refine bD ?_ | refine bA ?_ _)); refine blk_put (cs := #[.int .i64 ((rd_T25 l0 x27_2).f0), .string ((rd_T25 l0 x27_2).f1), .string ((rd_T25 l0 x27_2).f2), .string (⟨#[]⟩ : ByteArray), .slice none 0 0]) ?_ 3 _ rfl; (with_reducible repeat (first | refine bN ?_ _ | refine bD ?_ | refine bA ?_ _)); refine blk_put (cs := #[.int .i64 ((rd_T25 l0 x27_2).f0), .string ((rd_T25 l0 x27_2).f1), .string (⟨#[]⟩ : ByteArray), .string (⟨#[]⟩ : ByteArray), .slice none 0 0]) ?_ 2 _ rfl; (with_reducible repeat (first | refine bN ?_ _ | refine bD ?_ | refine bA ?_ _)); refine blk_put (cs := #[.int .i64 ((rd_T25 l0 x27_2).f0), .string (⟨#[]⟩ : ByteArray), .string (⟨#[]⟩ : ByteArray), .string (⟨#[]⟩ : ByteArray), .slice none 0 0]) ?_ 1 _ rfl; (with_reducible repeat (first | refine bN ?_ _ | refine bD ?_ | refine bA ?_ _)); refine blk_put (cs := #[.int .i64 0, .string (⟨#[]⟩ : ByteArray), .string (⟨#[]⟩ : ByteArray), .string (⟨#[]⟩ : ByteArray), .slice none 0 0]) ?_ 0 _ rfl; (with_reducible repeat (first | refine bN ?_ _ | refine bD ?_ | refine bA ?_ _)); exact BK180.out) hb); have n1_ := am (below_step (by repeat (first | (with_reducible first | exact HB.out | apply lA | apply lN | apply lD | refine below_set ?_ GE180.out) | exact HB.out)) hb); clear BK180; clear HB; have BK180 := n0_; have HB := n1_; clear n0_ n1_; (try clear hb); (try clear hb2); (try clear hk); (try clear hi); have hcz26_0 : w25.cell? ⟨gb180, 0, none⟩ = some (.int .i64 ((rd_T25 l0 x27_2).f0)) := (blk_cell BK180.out 0).trans rfl; have hcz26_1 : w25.cell? ⟨gb180, 1, none⟩ = some (.string ((rd_T25 l0 x27_2).f1)) := (blk_cell BK180.out 1).trans rfl; have hcz26_2 : w25.cell? ⟨gb180, 2, none⟩ = some (.string ((rd_T25 l0 x27_2).f2)) := (blk_cell BK180.out 2).trans rfl; have hcz26_3 : w25.cell? ⟨gb180, 3, none⟩ = some (.string ((rd_T25 l0 x27_2).f3)) := (blk_cell BK180.out 3).trans rfl; have hcz26_4 : w25.cell? ⟨gb180, 4, none⟩ = some (.slice A179_4 ((rd_T25 l0 x27_2).f4).length c179_4) := (blk_cell BK180.out 4).trans rfl; have hfz26_0 := blk_frozen BK180.out 0; have hfz26_1 := blk_frozen BK180.out 1; have hfz26_2 := blk_frozen BK180.out 2; have hfz26_3 := blk_frozen BK180.out 3; have hfz26_4 := blk_frozen BK180.out 4) | (go_at_call 43; (with_reducible refine (tree_head.calls ((rd_T25 l0 x27_2).f0) ((rd_T25 l0 x27_2).f1) ((rd_T25 l0 x27_2).f2) ((rd_T25 l0 x27_2).f3) _ _ ((rd_T25 l0 x27_2).f4) true _ ?side1 ?side2 A15.out).mono ?_); (case side1 => repeat (first | exact (Kd.C_below HR179_4.out HB.out) | (with_reducible refine Kd.C_alloc ?_ _) | (with_reducible refine Kd.C_drewN ?_ _) | (with_reducible refine Kd.C_drew ?_))); (case side2 => exact HC179_4.out); rintro e w27 ⟨rfl, hb⟩; have n0_ := am (bB (g := gb180) (o := .cells #[.int .i64 ((rd_T25 l0 x27_2).f0), .string ((rd_T25 l0 x27_2).f1), .string ((rd_T25 l0 x27_2).f2), .string ((rd_T25 l0 x27_2).f3), .slice A179_4 ((rd_T25 l0 x27_2).f4).length c179_4] 25 (0, 0)) (by (with_reducible repeat (first | refine bN ?_ _ | refine bD ?_ | refine bA ?_ _)); exact BK180.out) hb); have n1_ := am (below_step (by repeat (first | (with_reducible first | exact HB.out | apply lA | apply lN | apply lD | refine below_set ?_ GE180.out) | exact HB.out)) hb); clear BK180; clear HB; have BK180 := n0_; have HB := n1_; clear n0_ n1_; (try clear hb); (try clear hb2); (try clear hk); (try clear hi)))
            go_roundg k2
            case measure => have := HJ2.out; have := HK2.out; omega
            case rel => exact ⟨(wrap64 (x27_2 + 1)), (by first | rfl | (simp; done) | (simp [*]; done)), H', ⟨by have := HJ2.out; have := HK2.out; omega⟩, ⟨by repeat (first | (with_reducible first | exact HB.out | apply lA | apply lN | apply lD | refine below_set ?_ GE180.out) | exact HB.out)⟩⟩
          ·replace c16 := Bool.eq_false_iff.mpr c16
           subst c16
           have H1 : (tree_May.l0 k2 l0 (l0.length : Int) (wrap64 (x27_2 + 1))) = some r := by rw [if_neg (show ¬ (false = true) by decide)] at H; exact H
           clear H
           have H := H1
           clear H1
           have H' := am H
           clear H
           have p179 : 0 ≤ (x27_2 : Int) := of_decide_eq_true (by first | (with_reducible assumption) | assumption)
           have q179 : x27_2 < (l0.length : Int) := of_decide_eq_true (by first | (with_reducible assumption) | assumption)
           obtain ⟨ad179, A179_4, c179_4, e179, hx179_0, hx179_1, hx179_2, hx179_3, hx179_4, hl179_4, hi179_4⟩ := at_T25 HR0.out x27_2 p179 q179
           cases e179
           replace hx179_0 := (HB.out.cell (World.block_lt_of_cell? w _ hx179_0)).trans hx179_0
           replace hx179_1 := (HB.out.cell (World.block_lt_of_cell? w _ hx179_1)).trans hx179_1
           replace hx179_2 := (HB.out.cell (World.block_lt_of_cell? w _ hx179_2)).trans hx179_2
           replace hx179_3 := (HB.out.cell (World.block_lt_of_cell? w _ hx179_3)).trans hx179_3
           replace hx179_4 := (HB.out.cell (World.block_lt_of_cell? w _ hx179_4)).trans hx179_4
           have HR179_4 := am hi179_4
           have HC179_4 := am hl179_4
           clear hi179_4 hl179_4
           replace p179 := eq_true p179
           replace q179 := eq_true q179
           go_wp2_with (first | ((with_reducible refine gate_dst (N := 6) rfl ?_); (try (refine gate_guard (by rfl) ?_; dsimp only)); refine box_event ?hg (N := 6) ?hd (cs := #[.int .i64 0, .string (⟨#[]⟩ : ByteArray), .string (⟨#[]⟩ : ByteArray), .string (⟨#[]⟩ : ByteArray), .slice none 0 0]) (t := 25) ?hr ?_; (case hd => rfl); (case hg => rfl); (case hr => first | (go_simp; done) | (go_simp; rfl)); intro gb180 hg w28 hbox hb; have n0_ := am (below_step (by repeat (first | (with_reducible first | exact HB.out | apply lA | apply lN | apply lD) | exact HB.out)) hb); have n1_ := am (hbox); have n2_ := am ((by rw [hg]; exact (below_size (by repeat (first | (with_reducible first | exact HB.out | apply lA | apply lN | apply lD) | exact HB.out))) : w.heap.size ≤ gb180)); have n3_ := n2_; clear HB; have HB := n0_; have BK180 := n1_; have GW180 := n2_; have GE180 := n3_; clear n0_ n1_ n2_ n3_; clear hb hbox hg; have hcz29_0 : w28.cell? ⟨gb180, 0, none⟩ = some (.int .i64 0) := (blk_cell BK180.out 0).trans rfl; have hcz29_1 : w28.cell? ⟨gb180, 1, none⟩ = some (.string (⟨#[]⟩ : ByteArray)) := (blk_cell BK180.out 1).trans rfl; have hcz29_2 : w28.cell? ⟨gb180, 2, none⟩ = some (.string (⟨#[]⟩ : ByteArray)) := (blk_cell BK180.out 2).trans rfl; have hcz29_3 : w28.cell? ⟨gb180, 3, none⟩ = some (.string (⟨#[]⟩ : ByteArray)) := (blk_cell BK180.out 3).trans rfl; have hcz29_4 : w28.cell? ⟨gb180, 4, none⟩ = some (.slice none 0 0) := (blk_cell BK180.out 4).trans rfl; have hfz29_0 := blk_frozen BK180.out 0; have hfz29_1 := blk_frozen BK180.out 1; have hfz29_2 := blk_frozen BK180.out 2; have hfz29_3 := blk_frozen BK180.out 3; have hfz29_4 := blk_frozen BK180.out 4) | ((with_reducible refine gate_callee (f := 42) rfl ?_); refine goesL_ (some 33) rfl rfl Try.func42 (by kernel_rfl) rfl #[.agg #[.int .i64 ((rd_T25 l0 x27_2).f0), .string ((rd_T25 l0 x27_2).f1), .string ((rd_T25 l0 x27_2).f2), .string ((rd_T25 l0 x27_2).f3), .slice A179_4 ((rd_T25 l0 x27_2).f4).length c179_4]] rfl (by (try simp only [List.map_toArray, List.map_cons, List.map_nil]); first | done | rfl | (simp only [List.length_drop, List.length_take]; rfl)) ?_; (with_reducible refine (tree_may.calls k2 ((rd_T25 l0 x27_2).f0) ((rd_T25 l0 x27_2).f1) ((rd_T25 l0 x27_2).f2) ((rd_T25 l0 x27_2).f3) _ _ ((rd_T25 l0 x27_2).f4) true _ ?side1 ?side2 A13.out).mono ?_); (case side1 => exact Kd.C_below HR179_4.out (by repeat (first | (with_reducible first | exact HB.out | apply lA | apply lN | apply lD | refine below_set ?_ GE180.out) | exact HB.out))); (case side2 => exact HC179_4.out); rintro e w30 ⟨rfl, hb⟩; refine ⟨_, rfl, ?_⟩; have n0_ := am (bB (g := gb180) (o := .cells #[.int .i64 ((rd_T25 l0 x27_2).f0), .string ((rd_T25 l0 x27_2).f1), .string ((rd_T25 l0 x27_2).f2), .string ((rd_T25 l0 x27_2).f3), .slice A179_4 ((rd_T25 l0 x27_2).f4).length c179_4] 25 (0, 0)) (by (with_reducible repeat (first | refine bN ?_ _ | refine bD ?_ | refine bA ?_ _)); refine blk_put (cs := #[.int .i64 ((rd_T25 l0 x27_2).f0), .string ((rd_T25 l0 x27_2).f1), .string ((rd_T25 l0 x27_2).f2), .string ((rd_T25 l0 x27_2).f3), .slice none 0 0]) ?_ 4 _ rfl; (with_reducible repeat (first | refine bN ?_ _ | refine bD ?_ | refine bA ?_ _)); refine blk_put (cs := #[.int .i64 ((rd_T25 l0 x27_2).f0), .string ((rd_T25 l0 x27_2).f1), .string ((rd_T25 l0 x27_2).f2), .string (⟨#[]⟩ : ByteArray), .slice none 0 0]) ?_ 3 _ rfl; (with_reducible repeat (first | refine bN ?_ _ | refine bD ?_ | refine bA ?_ _)); refine blk_put (cs := #[.int .i64 ((rd_T25 l0 x27_2).f0), .string ((rd_T25 l0 x27_2).f1), .string (⟨#[]⟩ : ByteArray), .string (⟨#[]⟩ : ByteArray), .slice none 0 0]) ?_ 2 _ rfl; (with_reducible repeat (first | refine bN ?_ _ | refine bD ?_ | refine bA ?_ _)); refine blk_put (cs := #[.int .i64 ((rd_T25 l0 x27_2).f0), .string (⟨#[]⟩ : ByteArray), .string (⟨#[]⟩ : ByteArray), .string (⟨#[]⟩ : ByteArray), .slice none 0 0]) ?_ 1 _ rfl; (with_reducible repeat (first | refine bN ?_ _ | refine bD ?_ | refine bA ?_ _)); refine blk_put (cs := #[.int .i64 0, .string (⟨#[]⟩ : ByteArray), .string (⟨#[]⟩ : ByteArray), .string (⟨#[]⟩ : ByteArray), .slice none 0 0]) ?_ 0 _ rfl; (with_reducible repeat (first | refine bN ?_ _ | refine bD ?_ | refine bA ?_ _)); exact BK180.out) hb); have n1_ := am (below_step (by repeat (first | (with_reducible first | exact HB.out | apply lA | apply lN | apply lD | refine below_set ?_ GE180.out) | exact HB.out)) hb); clear BK180; clear HB; have BK180 := n0_; have HB := n1_; clear n0_ n1_; (try clear hb); (try clear hb2); (try clear hk); (try clear hi); have hcz31_0 : w30.cell? ⟨gb180, 0, none⟩ = some (.int .i64 ((rd_T25 l0 x27_2).f0)) := (blk_cell BK180.out 0).trans rfl; have hcz31_1 : w30.cell? ⟨gb180, 1, none⟩ = some (.string ((rd_T25 l0 x27_2).f1)) := (blk_cell BK180.out 1).trans rfl; have hcz31_2 : w30.cell? ⟨gb180, 2, none⟩ = some (.string ((rd_T25 l0 x27_2).f2)) := (blk_cell BK180.out 2).trans rfl; have hcz31_3 : w30.cell? ⟨gb180, 3, none⟩ = some (.string ((rd_T25 l0 x27_2).f3)) := (blk_cell BK180.out 3).trans rfl; have hcz31_4 : w30.cell? ⟨gb180, 4, none⟩ = some (.slice A179_4 ((rd_T25 l0 x27_2).f4).length c179_4) := (blk_cell BK180.out 4).trans rfl; have hfz31_0 := blk_frozen BK180.out 0; have hfz31_1 := blk_frozen BK180.out 1; have hfz31_2 := blk_frozen BK180.out 2; have hfz31_3 := blk_frozen BK180.out 3; have hfz31_4 := blk_frozen BK180.out 4) | (go_at_call 43; (with_reducible refine (tree_head.calls ((rd_T25 l0 x27_2).f0) ((rd_T25 l0 x27_2).f1) ((rd_T25 l0 x27_2).f2) ((rd_T25 l0 x27_2).f3) _ _ ((rd_T25 l0 x27_2).f4) false _ ?side1 ?side2 A15.out).mono ?_); (case side1 => repeat (first | exact (Kd.C_below HR179_4.out HB.out) | (with_reducible refine Kd.C_alloc ?_ _) | (with_reducible refine Kd.C_drewN ?_ _) | (with_reducible refine Kd.C_drew ?_))); (case side2 => exact HC179_4.out); rintro e w32 ⟨rfl, hb⟩; have n0_ := am (bB (g := gb180) (o := .cells #[.int .i64 ((rd_T25 l0 x27_2).f0), .string ((rd_T25 l0 x27_2).f1), .string ((rd_T25 l0 x27_2).f2), .string ((rd_T25 l0 x27_2).f3), .slice A179_4 ((rd_T25 l0 x27_2).f4).length c179_4] 25 (0, 0)) (by (with_reducible repeat (first | refine bN ?_ _ | refine bD ?_ | refine bA ?_ _)); exact BK180.out) hb); have n1_ := am (below_step (by repeat (first | (with_reducible first | exact HB.out | apply lA | apply lN | apply lD | refine below_set ?_ GE180.out) | exact HB.out)) hb); clear BK180; clear HB; have BK180 := n0_; have HB := n1_; clear n0_ n1_; (try clear hb); (try clear hb2); (try clear hk); (try clear hi)))
           go_roundg k2
           case measure => have := HJ2.out; have := HK2.out; omega
           case rel => exact ⟨(wrap64 (x27_2 + 1)), (by first | rfl | (simp; done) | (simp [*]; done)), H', ⟨by have := HJ2.out; have := HK2.out; omega⟩, ⟨by repeat (first | (with_reducible first | exact HB.out | apply lA | apply lN | apply lD | refine below_set ?_ GE180.out) | exact HB.out)⟩⟩
         ·replace c14 := Bool.eq_false_iff.mpr c14
          subst c14
          have H1 : (some false) = some r := by rw [if_neg (show ¬ (false = true) by decide)] at H; exact H
          clear H
          have H := H1
          clear H1
          obtain rfl := Option.some.inj H
          have p179 : 0 ≤ (x27_2 : Int) := of_decide_eq_true (by first | (with_reducible assumption) | assumption)
          have q179 : x27_2 < (l0.length : Int) := of_decide_eq_true (by first | (with_reducible assumption) | assumption)
          obtain ⟨ad179, A179_4, c179_4, e179, hx179_0, hx179_1, hx179_2, hx179_3, hx179_4, hl179_4, hi179_4⟩ := at_T25 HR0.out x27_2 p179 q179
          cases e179
          replace hx179_0 := (HB.out.cell (World.block_lt_of_cell? w _ hx179_0)).trans hx179_0
          replace hx179_1 := (HB.out.cell (World.block_lt_of_cell? w _ hx179_1)).trans hx179_1
          replace hx179_2 := (HB.out.cell (World.block_lt_of_cell? w _ hx179_2)).trans hx179_2
          replace hx179_3 := (HB.out.cell (World.block_lt_of_cell? w _ hx179_3)).trans hx179_3
          replace hx179_4 := (HB.out.cell (World.block_lt_of_cell? w _ hx179_4)).trans hx179_4
          have HR179_4 := am hi179_4
          have HC179_4 := am hl179_4
          clear hi179_4 hl179_4
          replace p179 := eq_true p179
          replace q179 := eq_true q179
          go_wp2_with (first | ((with_reducible refine gate_dst (N := 6) rfl ?_); (try (refine gate_guard (by rfl) ?_; dsimp only)); refine box_event ?hg (N := 6) ?hd (cs := #[.int .i64 0, .string (⟨#[]⟩ : ByteArray), .string (⟨#[]⟩ : ByteArray), .string (⟨#[]⟩ : ByteArray), .slice none 0 0]) (t := 25) ?hr ?_; (case hd => rfl); (case hg => rfl); (case hr => first | (go_simp; done) | (go_simp; rfl)); intro gb180 hg w33 hbox hb; have n0_ := am (below_step (by repeat (first | (with_reducible first | exact HB.out | apply lA | apply lN | apply lD) | exact HB.out)) hb); have n1_ := am (hbox); have n2_ := am ((by rw [hg]; exact (below_size (by repeat (first | (with_reducible first | exact HB.out | apply lA | apply lN | apply lD) | exact HB.out))) : w.heap.size ≤ gb180)); have n3_ := n2_; clear HB; have HB := n0_; have BK180 := n1_; have GW180 := n2_; have GE180 := n3_; clear n0_ n1_ n2_ n3_; clear hb hbox hg; have hcz34_0 : w33.cell? ⟨gb180, 0, none⟩ = some (.int .i64 0) := (blk_cell BK180.out 0).trans rfl; have hcz34_1 : w33.cell? ⟨gb180, 1, none⟩ = some (.string (⟨#[]⟩ : ByteArray)) := (blk_cell BK180.out 1).trans rfl; have hcz34_2 : w33.cell? ⟨gb180, 2, none⟩ = some (.string (⟨#[]⟩ : ByteArray)) := (blk_cell BK180.out 2).trans rfl; have hcz34_3 : w33.cell? ⟨gb180, 3, none⟩ = some (.string (⟨#[]⟩ : ByteArray)) := (blk_cell BK180.out 3).trans rfl; have hcz34_4 : w33.cell? ⟨gb180, 4, none⟩ = some (.slice none 0 0) := (blk_cell BK180.out 4).trans rfl; have hfz34_0 := blk_frozen BK180.out 0; have hfz34_1 := blk_frozen BK180.out 1; have hfz34_2 := blk_frozen BK180.out 2; have hfz34_3 := blk_frozen BK180.out 3; have hfz34_4 := blk_frozen BK180.out 4) | ((with_reducible refine gate_callee (f := 42) rfl ?_); refine goesL_ (some 33) rfl rfl Try.func42 (by kernel_rfl) rfl #[.agg #[.int .i64 ((rd_T25 l0 x27_2).f0), .string ((rd_T25 l0 x27_2).f1), .string ((rd_T25 l0 x27_2).f2), .string ((rd_T25 l0 x27_2).f3), .slice A179_4 ((rd_T25 l0 x27_2).f4).length c179_4]] rfl (by (try simp only [List.map_toArray, List.map_cons, List.map_nil]); first | done | rfl | (simp only [List.length_drop, List.length_take]; rfl)) ?_; (with_reducible refine (tree_may.calls k2 ((rd_T25 l0 x27_2).f0) ((rd_T25 l0 x27_2).f1) ((rd_T25 l0 x27_2).f2) ((rd_T25 l0 x27_2).f3) _ _ ((rd_T25 l0 x27_2).f4) false _ ?side1 ?side2 A13.out).mono ?_); (case side1 => exact Kd.C_below HR179_4.out (by repeat (first | (with_reducible first | exact HB.out | apply lA | apply lN | apply lD | refine below_set ?_ GE180.out) | exact HB.out))); (case side2 => exact HC179_4.out); rintro e w35 ⟨rfl, hb⟩; refine ⟨_, rfl, ?_⟩; have n0_ := am (bB (g := gb180) (o := .cells #[.int .i64 ((rd_T25 l0 x27_2).f0), .string ((rd_T25 l0 x27_2).f1), .string ((rd_T25 l0 x27_2).f2), .string ((rd_T25 l0 x27_2).f3), .slice A179_4 ((rd_T25 l0 x27_2).f4).length c179_4] 25 (0, 0)) (by (with_reducible repeat (first | refine bN ?_ _ | refine bD ?_ | refine bA ?_ _)); refine blk_put (cs := #[.int .i64 ((rd_T25 l0 x27_2).f0), .string ((rd_T25 l0 x27_2).f1), .string ((rd_T25 l0 x27_2).f2), .string ((rd_T25 l0 x27_2).f3), .slice none 0 0]) ?_ 4 _ rfl; (with_reducible repeat (first | refine bN ?_ _ | refine bD ?_ | refine bA ?_ _)); refine blk_put (cs := #[.int .i64 ((rd_T25 l0 x27_2).f0), .string ((rd_T25 l0 x27_2).f1), .string ((rd_T25 l0 x27_2).f2), .string (⟨#[]⟩ : ByteArray), .slice none 0 0]) ?_ 3 _ rfl; (with_reducible repeat (first | refine bN ?_ _ | refine bD ?_ | refine bA ?_ _)); refine blk_put (cs := #[.int .i64 ((rd_T25 l0 x27_2).f0), .string ((rd_T25 l0 x27_2).f1), .string (⟨#[]⟩ : ByteArray), .string (⟨#[]⟩ : ByteArray), .slice none 0 0]) ?_ 2 _ rfl; (with_reducible repeat (first | refine bN ?_ _ | refine bD ?_ | refine bA ?_ _)); refine blk_put (cs := #[.int .i64 ((rd_T25 l0 x27_2).f0), .string (⟨#[]⟩ : ByteArray), .string (⟨#[]⟩ : ByteArray), .string (⟨#[]⟩ : ByteArray), .slice none 0 0]) ?_ 1 _ rfl; (with_reducible repeat (first | refine bN ?_ _ | refine bD ?_ | refine bA ?_ _)); refine blk_put (cs := #[.int .i64 0, .string (⟨#[]⟩ : ByteArray), .string (⟨#[]⟩ : ByteArray), .string (⟨#[]⟩ : ByteArray), .slice none 0 0]) ?_ 0 _ rfl; (with_reducible repeat (first | refine bN ?_ _ | refine bD ?_ | refine bA ?_ _)); exact BK180.out) hb); have n1_ := am (below_step (by repeat (first | (with_reducible first | exact HB.out | apply lA | apply lN | apply lD | refine below_set ?_ GE180.out) | exact HB.out)) hb); clear BK180; clear HB; have BK180 := n0_; have HB := n1_; clear n0_ n1_; (try clear hb); (try clear hb2); (try clear hk); (try clear hi)))
          go_ret
          exact ⟨by first | rfl | (simp [errW_none, errW_some] <;> rfl) | (simp [*, errW_none, errW_some] <;> rfl), by repeat (first | (with_reducible first | exact HB.out | apply lA | apply lN | apply lD | refine below_set ?_ GE180.out) | exact HB.out)⟩
        ·rw [if_neg c12] at H
         exact absurd H (by simp)
       ·rw [if_neg c11] at H
        exact absurd H (by simp)
      ·rw [if_neg c10] at H
       have c10b0 : decide (x27_2 < (l0.length : Int)) = false := decide_eq_false c10
       clear c10
       obtain rfl := Option.some.inj H
       go_wp2
       go_ret
       exact ⟨by first | rfl | (simp [errW_none, errW_some] <;> rfl) | (simp [*, errW_none, errW_some] <;> rfl), by repeat (first | (with_reducible first | exact HB.out | apply lA | apply lN | apply lD) | exact HB.out)⟩
def api_Node_64.f  (a1 : Int) : Option ((List (S25))) := if a1 < 0 then (none) else (if (wrap64 a1) > 0 then (if 0 ≤ (wrap64 a1) then (if ([] : List (S25)).length + (wrap64 a1 : Int).toNat < 1759218604441 then ((some (([] : List (S25)) ++ List.replicate (wrap64 a1 : Int).toNat z25 : List (S25))).bind fun y183 => (if 0 ≤ (y183.length : Int) then (some (y183.take (0 : Int).toNat)) else (none))) else (none)) else (none)) else (some ([] : List (S25))))
set_option maxHeartbeats 8000000 in
set_option maxRecDepth 100000 in
theorem api_Node_64.calls  (a1 : Int) (r : List (S25)) (w : World) (h : api_Node_64.f a1 = some r) :
  Calls Try.prog 64 #[.slice none 0 0, .int .i64 a1] w fun e w' => ∃ v0_ : Value, e = .returned (v0_) ∧ Kd.S k25 25 w' w.heap.size (fun _ => True) v0_ r ∧ Below w.heap.size w w' := by
 have HB := am (Below.refl w.heap.size w)
 have H : (if a1 < 0 then (none) else (if (wrap64 a1) > 0 then (if 0 ≤ (wrap64 a1) then (if ([] : List (S25)).length + (wrap64 a1 : Int).toNat < 1759218604441 then ((some (([] : List (S25)) ++ List.replicate (wrap64 a1 : Int).toNat z25 : List (S25))).bind fun y183 => (if 0 ≤ (y183.length : Int) then (some (y183.take (0 : Int).toNat)) else (none))) else (none)) else (none)) else (some ([] : List (S25))))) = some r := h
 clear h
 by_cases c3 : a1 < 0
 ·rw [if_pos c3] at H
  exact absurd H (by simp)
 ·rw [if_neg c3] at H
  have c3b0 : decide (a1 < 0) = false := decide_eq_false c3
  clear c3
  by_cases c4 : (wrap64 a1) > 0
  ·rw [if_pos c4] at H
   have c4b0 : decide (0 < (wrap64 a1)) = true := decide_eq_true c4
   clear c4
   obtain ⟨ji5, hji5⟩ : ∃ j_ : Int, (wrap64 a1) = j_ := ⟨_, rfl⟩
   replace H : (if 0 ≤ (ji5) then (if ([] : List (S25)).length + (ji5 : Int).toNat < 1759218604441 then ((some (([] : List (S25)) ++ List.replicate (ji5 : Int).toNat z25 : List (S25))).bind fun y183 => (if 0 ≤ (y183.length : Int) then (some (y183.take (0 : Int).toNat)) else (none))) else (none)) else (none)) = some r := by first | (rw [hji5] at H; exact H) | (simp only [hji5] at H ⊢; exact H)
   (try rw [hji5] at c4b0)
   have hji5w : (IntKind.i64.wrap a1) = ji5 := (i64_w _).trans hji5
   by_cases c6 : 0 ≤ (ji5)
   ·rw [if_pos c6] at H
    have c6b0 := eq_true c6
    have c6b1 : decide (0 ≤ (ji5)) = true := decide_eq_true c6
    clear c6
    by_cases c7 : ([] : List (S25)).length + (ji5 : Int).toNat < 1759218604441
    ·rw [if_pos c7] at H
     have LMc7 := am c7
     clear c7
     obtain ⟨y183, hy183⟩ : ∃ y_ : List (S25), y_ = (([] : List (S25)) ++ List.replicate (ji5 : Int).toNat z25) := ⟨_, rfl⟩
     replace H : (if 0 ≤ (y183.length : Int) then (some (y183.take (0 : Int).toNat)) else (none)) = some r := by first | (rw [hy183]; with_reducible exact H) | (have H2_ := (Option.bind_some _ _).symm.trans H; rw [hy183]; with_reducible exact H2_) | (have H2_ := (Option.bind_some _ _).symm.trans H; with_reducible exact H2_) | with_reducible exact H | (rw [hy183]; exact H) | exact H
     have Ny183 := am hy183
     clear hy183
     by_cases c8 : 0 ≤ (y183.length : Int)
     ·rw [if_pos c8] at H
      have c8b0 := eq_true c8
      have c8b1 : decide (0 ≤ (y183.length : Int)) = true := decide_eq_true c8
      clear c8
      obtain ⟨y186, hy186⟩ : ∃ y_ : List (S25), y_ = (y183.take (0 : Int).toNat) := ⟨_, rfl⟩
      replace H : (some y186) = some r := by first | (rw [hy186]; with_reducible exact H) | (have H2_ := (Option.bind_some _ _).symm.trans H; rw [hy186]; with_reducible exact H2_) | (have H2_ := (Option.bind_some _ _).symm.trans H; with_reducible exact H2_) | with_reducible exact H | (rw [hy186]; exact H) | exact H
      have Ny186 := am hy186
      clear hy186
      obtain rfl := Option.some.inj H
      go_enter Try.func64, Try.ntmps64
      go_wp2_with (first | (at_builtin; refine Kd.S_append_zeros k25 (w0 := w) w.heap.size rfl (.tmp 20) (.tmp 21) 22 3 25 (.agg #[(.int .i64 0), (.string ⟨#[]⟩), (.string ⟨#[]⟩), (.string ⟨#[]⟩), (.slice none 0 0)]) 80 rfl Try.underlying22 Try.underlying3 info25 rfl (by decide) (by omega) (.slice none 0 0) ([] : List (S25)) z25 (ji5 : Int) (fun _ => True) rfl rfl (k25_mkM _ _ _ z25 (Kd.R_nil _ _ _ _ _)) ?aF ?aO (of_decide_eq_true (by first | (with_reducible assumption) | assumption)) ?aB ?aS ?aL ?_; (case aB => exact (by repeat (first | (with_reducible first | exact HB.out | apply lA | apply lN | apply lD) | exact HB.out))); (case aF => exact (fun _ _ => trivial)); (case aO => exact ((Kd.S_nil _ _ _ _ _))); (case aS => exact (below_size (by repeat (first | (with_reducible first | exact HB.out | apply lA | apply lN | apply lD) | exact HB.out)))); (case aL => have := LMc7.out; omega); intro v184 w9 ho hb hg hat; rw [← Ny183.out] at ho; have n0_ := am (hb); have n1_ := am (ho); clear HB; have HB := n0_; have HO185 := n1_; clear n0_ n1_; clear ho hb hg hat; obtain ⟨Ao10, co10, eo10⟩ := Kd.S_slice HO185.out; subst eo10; have q11 : (0 : Int) ≤ ((y183.length : Int) : Int) := of_decide_eq_true (by first | (with_reducible assumption) | assumption); obtain ⟨i011, hi011, _, hsz11, _⟩ := info_parts info25; have hcut11 := cut_to (P := Try.prog) 22 25 .i64 Try.underlying22 hi011 Ao10 y183.length co10 0 (by omega) q11 (Kd.S_reads' HO185.out).2.1; have hr11 := Kd.S_take (m := (0 : Int).toNat) HO185.out (by omega); have hy11 : y186.length = (0 : Int).toNat := (by rw [Ny186.out, List.length_take]; omega); rw [← Ny186.out] at hr11; rw [← hy11] at hr11 hcut11; clear hy11 hi011 hsz11 HO185; have HO188 := am hr11; clear hr11; replace q11 := eq_true q11))
      go_ret
      exact ⟨_, by first | rfl | (simp [errW_none, errW_some] <;> rfl) | (simp only [← hji5]; first | rfl | (simp [errW_none, errW_some] <;> rfl)) | (simp [*, errW_none, errW_some] <;> rfl), by (with_reducible repeat (first | apply Kd.S_alloc | apply Kd.S_drewN | apply Kd.S_drew)); exact HO188.out, by repeat (first | (with_reducible first | exact HB.out | apply lA | apply lN | apply lD) | exact HB.out)⟩
     ·rw [if_neg c8] at H
      exact absurd H (by simp)
    ·rw [if_neg c7] at H
     exact absurd H (by simp)
   ·rw [if_neg c6] at H
    exact absurd H (by simp)
  ·rw [if_neg c4] at H
   have c4b0 : decide (0 < (wrap64 a1)) = false := decide_eq_false c4
   clear c4
   obtain rfl := Option.some.inj H
   go_enter Try.func64, Try.ntmps64
   go_wp2
   go_ret
   exact ⟨_, by first | rfl | (simp [errW_none, errW_some] <;> rfl) | (simp [*, errW_none, errW_some] <;> rfl), by first | exact Kd.S_nil _ _ _ _ _ | exact Kd.N_nil _ _ _ _ _ | exact Kd.V_nil _ _ _ _ _ | exact Kd.Q_nil _ _ _ _ _ | exact Kd.R_nil _ _ _ _ _, by repeat (first | (with_reducible first | exact HB.out | apply lA | apply lN | apply lD) | exact HB.out)⟩
end Go.Proofs.Ytdelccahgchadaa.P
end
section
namespace Go.Proofs.Ytdelccahgchadaa.P
open Go.RowKit Go.Proofs.YtdelccahgchadaaW.PrintWords Go.Proofs.YtdelccahgchadaaW.PrintLast Go.Proofs.YtdelccahgchadaaW.PrintMore
attribute [local go_sem] max2_int min2_int max_two min_two max_three min_three max_four min_four   
set_option linter.unusedVariables false
set_option linter.unusedSimpArgs false
mutual
def api_Node_48.l0 : Nat → List (List (S25)) → Int → List (List (S25)) → Int → Int → Option ((List (S25)))
 | 0, _, _, _, _, _ => none
 | k + 1, x0, x3, x9, x10, x11 => if x11 < x10 then (if 0 ≤ x11 then (if x11 < (x9.length : Int) then (if (wrap64 (x3 + ((rd_L7 x9 x11).length : Int))) < 0 then (none) else (api_Node_48.l0 k x0 (wrap64 (x3 + ((rd_L7 x9 x11).length : Int))) x9 x10 (wrap64 (x11 + 1)))) else (none)) else (none)) else ((api_Node_64.f x3).bind fun t190 => (api_Node_48.l1 k t190 x0 (x0.length : Int) 0))
def api_Node_48.l1 : Nat → List (S25) → List (List (S25)) → Int → Int → Option ((List (S25)))
 | 0, _, _, _, _ => none
 | k + 1, x6, x25, x26, x27 => if x27 < x26 then (if 0 ≤ x27 then (if x27 < (x25.length : Int) then (if x6.length + (rd_L7 x25 x27).length < 1759218604441 then (api_Node_48.l1 k (x6 ++ (rd_L7 x25 x27)) x25 x26 (wrap64 (x27 + 1))) else (none)) else (none)) else (none)) else (some x6)
end
def api_Node_48.f (k : Nat) (l0 : List (List (S25))) : Option ((List (S25))) := api_Node_48.l0 k l0 0 l0 (l0.length : Int) 0
theorem api_Node_48.mono_l : ∀ k, (∀ y0 y1 y2 y3 y4, LeO (api_Node_48.l0 k y0 y1 y2 y3 y4) (api_Node_48.l0 (k + 1) y0 y1 y2 y3 y4)) ∧ (∀ y0 y1 y2 y3, LeO (api_Node_48.l1 k y0 y1 y2 y3) (api_Node_48.l1 (k + 1) y0 y1 y2 y3))
 | 0 => ⟨fun _ _ _ _ _ r h => by simp [api_Node_48.l0] at h, fun _ _ _ _ r h => by simp [api_Node_48.l1] at h⟩
 | k + 1 => by
  obtain ⟨ih0, ih1⟩ := api_Node_48.mono_l k
  refine ⟨?_, ?_⟩
  ·intro y0 y1 y2 y3 y4
   unfold api_Node_48.l0
   repeat' first
   | (with_reducible exact ih0 _ _ _ _ _)
   | (with_reducible exact ih1 _ _ _ _)
   | (with_reducible exact LeO.refl _)
   | (with_reducible exact LeO.none _)
   | (with_reducible refine LeO.ite ?_ ?_)
   | (with_reducible refine LeO.bind ?_ (fun _ => ?_))
   | exact ih0 _ _ _ _ _
   | exact ih1 _ _ _ _
   | exact LeO.none _
   | refine LeO.ite ?_ ?_
   | refine LeO.bind ?_ (fun _ => ?_)
  ·intro y0 y1 y2 y3
   unfold api_Node_48.l1
   repeat' first
   | (with_reducible exact ih0 _ _ _ _ _)
   | (with_reducible exact ih1 _ _ _ _)
   | (with_reducible exact LeO.refl _)
   | (with_reducible exact LeO.none _)
   | (with_reducible refine LeO.ite ?_ ?_)
   | (with_reducible refine LeO.bind ?_ (fun _ => ?_))
   | exact ih0 _ _ _ _ _
   | exact ih1 _ _ _ _
   | exact LeO.none _
   | refine LeO.ite ?_ ?_
   | refine LeO.bind ?_ (fun _ => ?_)
theorem api_Node_48.mono : ∀ a0 k, LeO (api_Node_48.f k a0) (api_Node_48.f (k + 1) a0) := by
 intro a0 k
 obtain ⟨ih0, ih1⟩ := api_Node_48.mono_l k
 unfold api_Node_48.f
 repeat' first
   | (with_reducible exact ih0 _ _ _ _ _)
   | (with_reducible exact ih1 _ _ _ _)
   | (with_reducible exact LeO.refl _)
   | (with_reducible exact LeO.none _)
   | (with_reducible refine LeO.ite ?_ ?_)
   | (with_reducible refine LeO.bind ?_ (fun _ => ?_))
   | exact ih0 _ _ _ _ _
   | exact ih1 _ _ _ _
   | exact LeO.none _
   | refine LeO.ite ?_ ?_
   | refine LeO.bind ?_ (fun _ => ?_)
set_option maxHeartbeats 8000000 in
set_option maxRecDepth 100000 in
theorem api_Node_48.calls (k : Nat) (P0_ : Nat → Prop) (A0 : Option Addr) (c0 : Nat) (l0 : List (List (S25))) (r : List (S25)) (w : World) (hs0 : Kd.V (Kd.slice 25 k25) 22 w w.heap.size (fun k_ => P0_ k_) (.slice A0 l0.length c0) l0) (h : api_Node_48.f k l0 = some r) :
  Calls Try.prog 48 #[.slice A0 l0.length c0] w fun e w' => ∃ v0_ : Value, e = .returned (v0_) ∧ Kd.N k25 25 w' w.heap.size (fun k_ => (P0_ k_ ∨ w.heap.size ≤ k_)) v0_ r ∧ Below w.heap.size w w' := by
 have HO0 := am (show Kd.V (Kd.slice 25 k25) 22 w w.heap.size (fun k_ => (P0_ k_ ∨ w.heap.size ≤ k_)) (.slice A0 l0.length c0) l0 from Kd.V_mono hs0 (fun k_ hk => .inl hk))
 have HB := am (Below.refl w.heap.size w)
 have H : (api_Node_48.l0 k l0 0 l0 (l0.length : Int) 0) = some r := h
 clear h
 have H' := am H
 clear H
 go_enter Try.func48, Try.ntmps48
 go_wp2
 go_loopg [3, 11] k (fun kq v3 v11 w' => ∃ (x3_1 : Int) (x11_1 : Int), v3 = .int .i64 x3_1 ∧ v11 = .int .i64 x11_1 ∧ Aside0 (api_Node_48.l0 kq l0 x3_1 l0 (l0.length : Int) x11_1 = some r) ∧ Aside0 (kq ≤ k) ∧ Aside0 (Kd.V (Kd.slice 25 k25) 22 w' w.heap.size (fun k_ => (P0_ k_ ∨ w.heap.size ≤ k_)) (.slice A0 l0.length c0) l0) ∧ Aside0 (Kd.V (Kd.slice 25 k25) 22 w' w.heap.size (fun k_ => (P0_ k_ ∨ w.heap.size ≤ k_)) (.slice A0 l0.length c0) l0) ∧ Aside0 (Below w.heap.size w w'))
 case atStart => exact ⟨(0), (0), (by first | rfl | (simp; done) | (simp [*]; done)), (by first | rfl | (simp; done) | (simp [*]; done)), H', ⟨Nat.le_refl _⟩, ⟨by (with_reducible repeat (first | apply Kd.V_alloc | apply Kd.V_drewN | apply Kd.V_drew)); exact HO0.out⟩, ⟨by (with_reducible repeat (first | apply Kd.V_alloc | apply Kd.V_drewN | apply Kd.V_drew)); exact HO0.out⟩, ⟨by repeat (first | (with_reducible first | exact HB.out | apply lA | apply lN | apply lD) | exact HB.out)⟩⟩
 case round =>
  clear H'
  obtain ⟨x3_1, x11_1, rfl, rfl, HA, HK1, HO_0, HO_9, HB⟩ := hrel
  cases gk with
  | zero => exact absurd HA.out (by simp [api_Node_48.l0])
  | succ k1 =>
   have H := HA.out
   clear HA
   simp only [api_Node_48.l0] at H
   by_cases c2 : x11_1 < (l0.length : Int)
   ·rw [if_pos c2] at H
    have c2b0 : decide (x11_1 < (l0.length : Int)) = true := decide_eq_true c2
    clear c2
    by_cases c3 : 0 ≤ x11_1
    ·rw [if_pos c3] at H
     have c3b0 : decide (0 ≤ x11_1) = true := decide_eq_true c3
     clear c3
     by_cases c4 : x11_1 < (l0.length : Int)
     ·rw [if_pos c4] at H
      have c4b0 : decide (x11_1 < (l0.length : Int)) = true := decide_eq_true c4
      clear c4
      by_cases c5 : (wrap64 (x3_1 + ((rd_L7 l0 x11_1).length : Int))) < 0
      ·rw [if_pos c5] at H
       exact absurd H (by simp)
      ·rw [if_neg c5] at H
       have c5b0 : decide ((wrap64 (x3_1 + ((rd_L7 l0 x11_1).length : Int))) < 0) = false := decide_eq_false c5
       clear c5
       have H' := am H
       clear H
       have p189 : 0 ≤ (x11_1 : Int) := of_decide_eq_true (by first | (with_reducible assumption) | assumption)
       have q189 : x11_1 < (l0.length : Int) := of_decide_eq_true (by first | (with_reducible assumption) | assumption)
       obtain ⟨ad189, A189_0, c189_0, e189, hx189_0, hl189_0, hi189_0⟩ := at_L7 (Kd.V_reads' HO_9.out).2.2 x11_1 p189 q189
       cases e189
       obtain ⟨ce189, hce189, hMe189, hcc189⟩ := Kd.V_get HO_9.out [] x11_1 p189 (by first | exact q189 | exact of_decide_eq_true (by first | (with_reducible assumption) | assumption) | (have e_ := (Kd.V_reads' HO_9.out).1; omega))
       obtain ⟨ua189_0, uc189_0, rfl, ul189_0, ge189_0⟩ := Kd.FK_slice_open hMe189
       have hv189_0 := hcc189 0 _ rfl
       rw [Nat.add_zero, show ((Kd.slice 25 k25)).sz = 1 from rfl, Nat.mul_one] at hv189_0
       replace hv189_0 := Option.some.inj (hv189_0.symm.trans hx189_0)
       injection hv189_0 with hva_ hvn_ hvc_
       rw [hva_] at ge189_0
       rw [hvc_] at ul189_0
       have HL189_0 := am (show Kd.V k25 25 _ w.heap.size _ _ (rd_L7 l0 x11_1) from Kd.V_mk ul189_0 ge189_0)
       clear hva_ hvn_ hvc_ ge189_0 ul189_0
       clear hcc189 hce189
       have HR189_0 := am hi189_0
       have HC189_0 := am hl189_0
       clear hi189_0 hl189_0
       replace p189 := eq_true p189
       replace q189 := eq_true q189
       go_wp2
       go_roundg k1
       case measure => have := HK1.out; omega
       case rel => exact ⟨(wrap64 (x3_1 + ((rd_L7 l0 x11_1).length : Int))), (wrap64 (x11_1 + 1)), (by first | rfl | (simp; done) | (simp [*]; done)), (by first | rfl | (simp; done) | (simp [*]; done)), H', ⟨by have := HK1.out; omega⟩, ⟨by (with_reducible repeat (first | apply Kd.V_alloc | apply Kd.V_drewN | apply Kd.V_drew)); exact HO_0.out⟩, ⟨by (with_reducible repeat (first | apply Kd.V_alloc | apply Kd.V_drewN | apply Kd.V_drew)); exact HO_9.out⟩, ⟨by repeat (first | (with_reducible first | exact HB.out | apply lA | apply lN | apply lD) | exact HB.out)⟩⟩
     ·rw [if_neg c4] at H
      exact absurd H (by simp)
    ·rw [if_neg c3] at H
     exact absurd H (by simp)
   ·rw [if_neg c2] at H
    have c2b0 : decide (x11_1 < (l0.length : Int)) = false := decide_eq_false c2
    clear c2
    replace H := Option.bind_eq_some_iff.mp H
    obtain ⟨t190, A60, H⟩ := H
    replace H : (api_Node_48.l1 k1 t190 l0 (l0.length : Int) 0) = some r := H
    have A6 := am A60
    clear A60
    have H' := am H
    clear H
    go_wp2_with (first | ((with_reducible refine gate_callee (f := 64) rfl ?_); refine goesL_ (some 24) rfl rfl Try.func64 (by kernel_rfl) rfl #[.slice none 0 0, .int .i64 x3_1] rfl (by (try simp only [List.map_toArray, List.map_cons, List.map_nil]); first | done | rfl | (simp only [List.length_drop, List.length_take]; rfl)) ?_; (with_reducible refine (api_Node_64.calls  x3_1 t190 _ A6.out).mono ?_); rintro e w7 ⟨v191, rfl, ho0, hb⟩; refine ⟨_, rfl, ?_⟩; have n0_ := am (Kd.V_elder' (by (with_reducible repeat (first | apply Kd.V_alloc | apply Kd.V_drewN | apply Kd.V_drew)); exact HO_0.out) (Kd.N_base (Kd.S_N ho0)) hb); have n1_ := am (Kd.V_elder' (by (with_reducible repeat (first | apply Kd.V_alloc | apply Kd.V_drewN | apply Kd.V_drew)); exact HO_9.out) (Kd.N_base (Kd.S_N ho0)) hb); have n2_ := am (Kd.N_lower (Kd.N_mono (ok' := fun k_ => (P0_ k_ ∨ w.heap.size ≤ k_)) (Kd.S_N (Kd.S_bound ho0)) (fun k_ hk_ => (.inr (Nat.le_trans (below_size (by repeat (first | (with_reducible first | exact HB.out | apply lA | apply lN | apply lD) | exact HB.out))) hk_.2.1)))) (below_size (by repeat (first | (with_reducible first | exact HB.out | apply lA | apply lN | apply lD) | exact HB.out)))); have n3_ := am (below_step (by repeat (first | (with_reducible first | exact HB.out | apply lA | apply lN | apply lD) | exact HB.out)) hb); clear HO_0; clear HO_9; clear HB; have HO_0 := n0_; have HO_9 := n1_; have HO192 := n2_; have HB := n3_; clear n0_ n1_ n2_ n3_; (try clear hb); (try clear hb2); (try clear hk); (try clear hi); (try clear ho0)))
    go_loopg [6, 27] k1 (fun kq v6 v27 w' => ∃ (x6_2 : List (S25)) (x27_2 : Int), v27 = .int .i64 x27_2 ∧ Aside0 (api_Node_48.l1 kq x6_2 l0 (l0.length : Int) x27_2 = some r) ∧ Aside0 (kq ≤ k1) ∧ Aside0 (Kd.N k25 25 w' w.heap.size (fun k_ => (P0_ k_ ∨ w.heap.size ≤ k_)) v6 x6_2) ∧ Aside0 (Kd.V (Kd.slice 25 k25) 22 w' w.heap.size (fun k_ => (P0_ k_ ∨ w.heap.size ≤ k_) ∧ some k_ ≠ (v6 : Value).ownBlock) (.slice A0 l0.length c0) l0) ∧ Aside0 (Below w.heap.size w w'))
    case atStart => exact ⟨(t190), (0), (by first | rfl | (simp; done) | (simp [*]; done)), H', ⟨Nat.le_refl _⟩, ⟨by (with_reducible repeat (first | apply Kd.N_alloc | apply Kd.N_drewN | apply Kd.N_drew)); exact HO192.out⟩, ⟨by (with_reducible repeat (first | apply Kd.V_alloc | apply Kd.V_drewN | apply Kd.V_drew)); exact HO_0.out⟩, ⟨by repeat (first | (with_reducible first | exact HB.out | apply lA | apply lN | apply lD) | exact HB.out)⟩⟩
    case round =>
     clear H'
     try clear c1
     try clear p1
     try clear q1
     try clear hx1
     try clear c2
     try clear c2b0
     try clear p2
     try clear c3
     try clear c3b0
     try clear c4
     try clear c4b0
     try clear c5
     try clear c5b0
     try clear c6
     try clear p6
     try clear hx189_0
     try clear p189
     try clear q189
     obtain ⟨x6_2, x27_2, rfl, HA, HK2, HO_6, HO_25, HB⟩ := hrel
     cases gk with
     | zero => exact absurd HA.out (by simp [api_Node_48.l1])
     | succ k2 =>
      have H := HA.out
      clear HA
      simp only [api_Node_48.l1] at H
      by_cases c8 : x27_2 < (l0.length : Int)
      ·rw [if_pos c8] at H
       have c8b0 : decide (x27_2 < (l0.length : Int)) = true := decide_eq_true c8
       clear c8
       by_cases c9 : 0 ≤ x27_2
       ·rw [if_pos c9] at H
        have c9b0 : decide (0 ≤ x27_2) = true := decide_eq_true c9
        clear c9
        by_cases c10 : x27_2 < (l0.length : Int)
        ·rw [if_pos c10] at H
         have c10b0 : decide (x27_2 < (l0.length : Int)) = true := decide_eq_true c10
         clear c10
         by_cases c11 : x6_2.length + (rd_L7 l0 x27_2).length < 1759218604441
         ·rw [if_pos c11] at H
          have LMc11 := am c11
          clear c11
          obtain ⟨y194, hy194⟩ : ∃ y_ : List (S25), y_ = (x6_2 ++ (rd_L7 l0 x27_2)) := ⟨_, rfl⟩
          replace H : (api_Node_48.l1 k2 y194 l0 (l0.length : Int) (wrap64 (x27_2 + 1))) = some r := by first | (rw [hy194]; with_reducible exact H) | (have H2_ := (Option.bind_some _ _).symm.trans H; rw [hy194]; with_reducible exact H2_) | (have H2_ := (Option.bind_some _ _).symm.trans H; with_reducible exact H2_) | with_reducible exact H | (rw [hy194]; exact H) | exact H
          have Ny194 := am hy194
          clear hy194
          have H' := am H
          clear H
          have p193 : 0 ≤ (x27_2 : Int) := of_decide_eq_true (by first | (with_reducible assumption) | assumption)
          have q193 : x27_2 < (l0.length : Int) := of_decide_eq_true (by first | (with_reducible assumption) | assumption)
          obtain ⟨ad193, A193_0, c193_0, e193, hx193_0, hl193_0, hi193_0⟩ := at_L7 (Kd.V_reads' HO_25.out).2.2 x27_2 p193 q193
          cases e193
          obtain ⟨ce193, hce193, hMe193, hcc193⟩ := Kd.V_get HO_25.out [] x27_2 p193 (by first | exact q193 | exact of_decide_eq_true (by first | (with_reducible assumption) | assumption) | (have e_ := (Kd.V_reads' HO_25.out).1; omega))
          obtain ⟨ua193_0, uc193_0, rfl, ul193_0, ge193_0⟩ := Kd.FK_slice_open hMe193
          have hv193_0 := hcc193 0 _ rfl
          rw [Nat.add_zero, show ((Kd.slice 25 k25)).sz = 1 from rfl, Nat.mul_one] at hv193_0
          replace hv193_0 := Option.some.inj (hv193_0.symm.trans hx193_0)
          injection hv193_0 with hva_ hvn_ hvc_
          rw [hva_] at ge193_0
          rw [hvc_] at ul193_0
          have HL193_0 := am (show Kd.V k25 25 _ w.heap.size _ _ (rd_L7 l0 x27_2) from Kd.V_mk ul193_0 ge193_0)
          clear hva_ hvn_ hvc_ ge193_0 ul193_0
          clear hcc193 hce193
          have HR193_0 := am hi193_0
          have HC193_0 := am hl193_0
          clear hi193_0 hl193_0
          replace p193 := eq_true p193
          replace q193 := eq_true q193
          go_wp2_with (first | ((with_reducible refine gate_builtin (b := .append) (xs := #[.tmp 31, .tmp 32]) rfl ?_); at_builtin; refine Kd.N_append_rows k25 (w0 := w) w.heap.size rfl (.tmp 31) (.tmp 32) 22 25 (.agg #[(.int .i64 0), (.string ⟨#[]⟩), (.string ⟨#[]⟩), (.string ⟨#[]⟩), (.slice none 0 0)]) 80 rfl Try.underlying22 info25 rfl (by decide) (by omega) u6 x6_2 (rd_L7 l0 x27_2) _ _ _ (fun k_ => (P0_ k_ ∨ w.heap.size ≤ k_)) (fun k_ => ((fun k_ => (P0_ k_ ∨ w.heap.size ≤ k_))) k_ ∧ some k_ ≠ (u6 : Value).ownBlock) rfl rfl ?aO ?aR (fun _ hk => hk) ?aF ?aB ?aS ?aL ?_; (case aR => exact (by skip; exact Kd.V_F (Kd.V_mono (ok' := (fun k_ => ((fun k_ => (P0_ k_ ∨ w.heap.size ≤ k_))) k_ ∧ some k_ ≠ (u6 : Value).ownBlock)) (HL193_0.out) (fun k_ hk => ⟨hk.1, hk.2⟩)))); (case aB => exact (by repeat (first | (with_reducible first | exact HB.out | apply lA | apply lN | apply lD) | exact HB.out))); (case aF => exact (fun k_ hk => (.inr (Nat.le_trans (below_size (by repeat (first | (with_reducible first | exact HB.out | apply lA | apply lN | apply lD) | exact HB.out))) hk)))); (case aO => exact (by (with_reducible repeat (first | apply Kd.N_alloc | apply Kd.N_drewN | apply Kd.N_drew)); exact HO_6.out)); (case aS => exact (below_size (by repeat (first | (with_reducible first | exact HB.out | apply lA | apply lN | apply lD) | exact HB.out)))); (case aL => have := LMc11.out; omega); intro v195 w12 ho hb hg hat; rw [← Ny194.out] at ho; have n0_ := am (Kd.V_afterv (ok := (fun k_ => (P0_ k_ ∨ w.heap.size ≤ k_))) (by (with_reducible repeat (first | apply Kd.V_alloc | apply Kd.V_drewN | apply Kd.V_drew)); exact HO_25.out) hg hat); have n1_ := am (Kd.V_afterv (ok := (fun k_ => (P0_ k_ ∨ w.heap.size ≤ k_))) (by (with_reducible repeat (first | apply Kd.V_alloc | apply Kd.V_drewN | apply Kd.V_drew)); exact HL193_0.out) hg hat); have n2_ := am (hb); have n3_ := am (ho); clear HO_25; clear HL193_0; clear HB; clear HO_6; have HO_25 := n0_; have HL193_0 := n1_; have HB := n2_; have HO196 := n3_; clear n0_ n1_ n2_ n3_; clear ho hb hg hat))
          go_roundg k2
          case measure => have := HK1.out; have := HK2.out; omega
          case rel => exact ⟨(y194), (wrap64 (x27_2 + 1)), (by first | rfl | (simp; done) | (simp [*]; done)), H', ⟨by have := HK1.out; have := HK2.out; omega⟩, ⟨by (with_reducible repeat (first | apply Kd.N_alloc | apply Kd.N_drewN | apply Kd.N_drew)); exact HO196.out⟩, ⟨by (with_reducible repeat (first | apply Kd.V_alloc | apply Kd.V_drewN | apply Kd.V_drew)); exact HO_25.out⟩, ⟨by repeat (first | (with_reducible first | exact HB.out | apply lA | apply lN | apply lD) | exact HB.out)⟩⟩
         ·rw [if_neg c11] at H
          exact absurd H (by simp)
        ·rw [if_neg c10] at H
         exact absurd H (by simp)
       ·rw [if_neg c9] at H
        exact absurd H (by simp)
      ·rw [if_neg c8] at H
       have c8b0 : decide (x27_2 < (l0.length : Int)) = false := decide_eq_false c8
       clear c8
       obtain rfl := Option.some.inj H
       go_wp2
       go_ret
       exact ⟨_, by first | rfl | (simp [errW_none, errW_some] <;> rfl) | (simp [*, errW_none, errW_some] <;> rfl), by (with_reducible repeat (first | apply Kd.N_alloc | apply Kd.N_drewN | apply Kd.N_drew)); exact HO_6.out, by repeat (first | (with_reducible first | exact HB.out | apply lA | apply lN | apply lD) | exact HB.out)⟩
end Go.Proofs.Ytdelccahgchadaa.P
end
