/- Walks, written by a program out of the translation. -/
import Derived.Test.YtdelccahgchadaaPx0
import Derived.Test.YtdelccahgchadaaPx5
import Derived.Test.YtdelccahgchadaaGBase
import Derived.Test.YtdelccahgchadaaGLex
import Derived.Test.YtdelccahgchadaaGTree
namespace Go.Proofs.Ytdelccahgchadaa.P
open Go.RowKit Go.Proofs.YtdelccahgchadaaW.PrintWords Go.Proofs.YtdelccahgchadaaW.PrintLast Go.Proofs.YtdelccahgchadaaW.PrintMore
attribute [local go_sem] max2_int min2_int max_two min_two max_three min_three max_four min_four   -- for this text's walks alone
set_option linter.unusedVariables false
set_option linter.unusedSimpArgs false

/-! ### lex_first: function 65 -/
def lex_first.f (k : Nat) (a0 : ByteArray) : Option (Int × Int) := if 0 < (a0.size : Int) then ((lex_small.f (bt a0 0)).bind fun t141 => (if t141 = true then ((run_word.f a0).bind fun t142 => (some (2, t142))) else ((lex_great.f (bt a0 0)).bind fun t143 => (if t143 = true then ((run_verb.f a0).bind fun t144 => (some (3, t144))) else ((strings_IndexByte.f (⟨#[43, 45, 42, 37, 33, 38, 124, 60, 62, 61, 126, 44, 35, 94, 36, 63, 64]⟩ : ByteArray) (bt a0 0)).bind fun t145 => (if t145 ≥ 0 then (some (4, 1)) else ((strings_IndexByte.f (⟨#[39, 47, 92, 46, 96]⟩ : ByteArray) (bt a0 0)).bind fun t146 => (if t146 ≥ 0 then (some (5, 1)) else ((strings_IndexByte.f (⟨#[40, 41, 91, 93, 123, 125, 58]⟩ : ByteArray) (bt a0 0)).bind fun t147 => (if t147 ≥ 0 then (some (6, 1)) else ((strings_TrimPrefix.f a0 (⟨#[95]⟩ : ByteArray)).bind fun t148 => ((run_figure.f t148).bind fun t149 => (if 0 ≤ (wrap64 ((wrap64 ((a0.size : Int) - (t148.size : Int))) + t149)) then (if (wrap64 ((wrap64 ((a0.size : Int) - (t148.size : Int))) + t149)) ≤ (a0.size : Int) then ((lex_Number.f k (a0.extract 0 ((wrap64 ((wrap64 ((a0.size : Int) - (t148.size : Int))) + t149)) : Int).toNat)).bind fun bt150 => (if bt150.2 = true then (some (1, wrap64 ((wrap64 ((a0.size : Int) - (t148.size : Int))) + t149))) else (some (0, 0)))) else (none)) else (none)))))))))))))) else (none)
theorem lex_first.mono : ∀ a0 k, LeO (lex_first.f k a0) (lex_first.f (k + 1) a0) := by
  intro a0 k
  unfold lex_first.f
  repeat' first
      | (with_reducible exact lex_Number.mono _ _)
      | (with_reducible exact LeO.refl _)
      | (with_reducible exact LeO.none _)
      | (with_reducible refine LeO.ite ?_ ?_)
      | (with_reducible refine LeO.bind ?_ (fun _ => ?_))
      | exact lex_Number.mono _ _
      | exact LeO.none _
      | refine LeO.ite ?_ ?_
      | refine LeO.bind ?_ (fun _ => ?_)
set_option maxHeartbeats 8000000 in
set_option maxRecDepth 100000 in
theorem lex_first.calls (k : Nat) (a0 : ByteArray) (r1 : Int) (r2 : Int) (w : World) (h : lex_first.f k a0 = some (r1, r2)) :
    Calls Try.prog 65 #[.string a0] w fun e w' => e = .returned (.tuple #[.int .i64 r1, .int .i64 r2]) ∧ Below w.heap.size w w' := by
  have HB := Aside0.mk (Below.refl w.heap.size w)
  have H : (if 0 < (a0.size : Int) then ((lex_small.f (bt a0 0)).bind fun t141 => (if t141 = true then ((run_word.f a0).bind fun t142 => (some (2, t142))) else ((lex_great.f (bt a0 0)).bind fun t143 => (if t143 = true then ((run_verb.f a0).bind fun t144 => (some (3, t144))) else ((strings_IndexByte.f (⟨#[43, 45, 42, 37, 33, 38, 124, 60, 62, 61, 126, 44, 35, 94, 36, 63, 64]⟩ : ByteArray) (bt a0 0)).bind fun t145 => (if t145 ≥ 0 then (some (4, 1)) else ((strings_IndexByte.f (⟨#[39, 47, 92, 46, 96]⟩ : ByteArray) (bt a0 0)).bind fun t146 => (if t146 ≥ 0 then (some (5, 1)) else ((strings_IndexByte.f (⟨#[40, 41, 91, 93, 123, 125, 58]⟩ : ByteArray) (bt a0 0)).bind fun t147 => (if t147 ≥ 0 then (some (6, 1)) else ((strings_TrimPrefix.f a0 (⟨#[95]⟩ : ByteArray)).bind fun t148 => ((run_figure.f t148).bind fun t149 => (if 0 ≤ (wrap64 ((wrap64 ((a0.size : Int) - (t148.size : Int))) + t149)) then (if (wrap64 ((wrap64 ((a0.size : Int) - (t148.size : Int))) + t149)) ≤ (a0.size : Int) then ((lex_Number.f k (a0.extract 0 ((wrap64 ((wrap64 ((a0.size : Int) - (t148.size : Int))) + t149)) : Int).toNat)).bind fun bt150 => (if bt150.2 = true then (some (1, wrap64 ((wrap64 ((a0.size : Int) - (t148.size : Int))) + t149))) else (some (0, 0)))) else (none)) else (none)))))))))))))) else (none)) = some (r1, r2) := h
  clear h
  by_cases c2 : 0 < (a0.size : Int)
  · rw [if_pos c2] at H
    have c2b0 : decide (0 < (a0.size : Int)) = true := decide_eq_true c2
    have c2b1 : decide (0 < a0.size) = true := decide_eq_true (by omega)
    clear c2
    replace H := Option.bind_eq_some_iff.mp H
    obtain ⟨t141, A40, H⟩ := H
    replace H : (if t141 = true then ((run_word.f a0).bind fun t142 => (some (2, t142))) else ((lex_great.f (bt a0 0)).bind fun t143 => (if t143 = true then ((run_verb.f a0).bind fun t144 => (some (3, t144))) else ((strings_IndexByte.f (⟨#[43, 45, 42, 37, 33, 38, 124, 60, 62, 61, 126, 44, 35, 94, 36, 63, 64]⟩ : ByteArray) (bt a0 0)).bind fun t145 => (if t145 ≥ 0 then (some (4, 1)) else ((strings_IndexByte.f (⟨#[39, 47, 92, 46, 96]⟩ : ByteArray) (bt a0 0)).bind fun t146 => (if t146 ≥ 0 then (some (5, 1)) else ((strings_IndexByte.f (⟨#[40, 41, 91, 93, 123, 125, 58]⟩ : ByteArray) (bt a0 0)).bind fun t147 => (if t147 ≥ 0 then (some (6, 1)) else ((strings_TrimPrefix.f a0 (⟨#[95]⟩ : ByteArray)).bind fun t148 => ((run_figure.f t148).bind fun t149 => (if 0 ≤ (wrap64 ((wrap64 ((a0.size : Int) - (t148.size : Int))) + t149)) then (if (wrap64 ((wrap64 ((a0.size : Int) - (t148.size : Int))) + t149)) ≤ (a0.size : Int) then ((lex_Number.f k (a0.extract 0 ((wrap64 ((wrap64 ((a0.size : Int) - (t148.size : Int))) + t149)) : Int).toNat)).bind fun bt150 => (if bt150.2 = true then (some (1, wrap64 ((wrap64 ((a0.size : Int) - (t148.size : Int))) + t149))) else (some (0, 0)))) else (none)) else (none))))))))))))) = some (r1, r2) := H
    have A4 := Aside0.mk A40
    clear A40
    by_cases c5 : t141 = true
    · subst c5
      have H1 : ((run_word.f a0).bind fun t142 => (some (2, t142))) = some (r1, r2) := by rw [if_pos rfl] at H; exact H
      clear H
      have H := H1
      clear H1
      replace H := Option.bind_eq_some_iff.mp H
      obtain ⟨t142, A60, H⟩ := H
      replace H : (some (2, t142)) = some (r1, r2) := H
      have A6 := Aside0.mk A60
      clear A60
      simp only [Option.some.injEq, Prod.mk.injEq] at H
      obtain ⟨rfl, rfl⟩ := H
      have p3 : 0 ≤ (0 : Int) := (by omega)
      have q3 : 0 < a0.size := (by have : (0 : Int) < (a0.size : Int) := of_decide_eq_true (by first | (with_reducible assumption) | assumption); omega)
      have hx3 : ∀ h : 0 < a0.size, ((a0[0]'h).toNat : Int) = bt a0 0 := bt_at a0 0
      clear p3
      have qi3 : (0 < (a0.size : Int)) = True := eq_true (of_decide_eq_true (by first | (with_reducible assumption) | assumption))
      replace q3 := eq_true q3
      go_enter Try.func65, Try.ntmps65
      go_wp2_with (first | ((with_reducible refine gate_callee (f := 84) rfl ?_); refine goesL_ (some 13) rfl rfl Try.func84 (by kernel_rfl) rfl #[.int .u8 (bt a0 0)] rfl (by (try simp only [List.map_toArray, List.map_cons, List.map_nil]); first | done | rfl | (simp only [List.length_drop, List.length_take]; rfl)) ?_; (with_reducible refine (lex_small.calls (bt a0 0) true _ A4.out).mono ?_); rintro e w' ⟨rfl, ⟨nd, rfl⟩⟩; refine ⟨_, rfl, ?_⟩) | ((with_reducible refine gate_callee (f := 85) rfl ?_); refine goesL_ (some 15) rfl rfl Try.func85 (by kernel_rfl) rfl #[.string a0, .func (.func 86) #[] #[]] rfl (by (try simp only [List.map_toArray, List.map_cons, List.map_nil]); first | done | rfl | (simp only [List.length_drop, List.length_take]; rfl)) ?_; (with_reducible refine (run_word.calls a0  t142 _ A6.out).mono ?_); rintro e w' ⟨rfl, ⟨nd, rfl⟩⟩; refine ⟨_, rfl, ?_⟩))
      go_ret2
      exact ⟨by first | rfl | (simp [errW_none, errW_some] <;> rfl) | (simp [*, errW_none, errW_some] <;> rfl), by repeat (first | (with_reducible first | exact HB.out | apply below_alloc | apply pw_below_drewN | apply below_drew1) | exact HB.out)⟩
    · replace c5 := Bool.eq_false_iff.mpr c5
      subst c5
      have H1 : ((lex_great.f (bt a0 0)).bind fun t143 => (if t143 = true then ((run_verb.f a0).bind fun t144 => (some (3, t144))) else ((strings_IndexByte.f (⟨#[43, 45, 42, 37, 33, 38, 124, 60, 62, 61, 126, 44, 35, 94, 36, 63, 64]⟩ : ByteArray) (bt a0 0)).bind fun t145 => (if t145 ≥ 0 then (some (4, 1)) else ((strings_IndexByte.f (⟨#[39, 47, 92, 46, 96]⟩ : ByteArray) (bt a0 0)).bind fun t146 => (if t146 ≥ 0 then (some (5, 1)) else ((strings_IndexByte.f (⟨#[40, 41, 91, 93, 123, 125, 58]⟩ : ByteArray) (bt a0 0)).bind fun t147 => (if t147 ≥ 0 then (some (6, 1)) else ((strings_TrimPrefix.f a0 (⟨#[95]⟩ : ByteArray)).bind fun t148 => ((run_figure.f t148).bind fun t149 => (if 0 ≤ (wrap64 ((wrap64 ((a0.size : Int) - (t148.size : Int))) + t149)) then (if (wrap64 ((wrap64 ((a0.size : Int) - (t148.size : Int))) + t149)) ≤ (a0.size : Int) then ((lex_Number.f k (a0.extract 0 ((wrap64 ((wrap64 ((a0.size : Int) - (t148.size : Int))) + t149)) : Int).toNat)).bind fun bt150 => (if bt150.2 = true then (some (1, wrap64 ((wrap64 ((a0.size : Int) - (t148.size : Int))) + t149))) else (some (0, 0)))) else (none)) else (none)))))))))))) = some (r1, r2) := by rw [if_neg (show ¬ (false = true) by decide)] at H; exact H
      clear H
      have H := H1
      clear H1
      replace H := Option.bind_eq_some_iff.mp H
      obtain ⟨t143, A70, H⟩ := H
      replace H : (if t143 = true then ((run_verb.f a0).bind fun t144 => (some (3, t144))) else ((strings_IndexByte.f (⟨#[43, 45, 42, 37, 33, 38, 124, 60, 62, 61, 126, 44, 35, 94, 36, 63, 64]⟩ : ByteArray) (bt a0 0)).bind fun t145 => (if t145 ≥ 0 then (some (4, 1)) else ((strings_IndexByte.f (⟨#[39, 47, 92, 46, 96]⟩ : ByteArray) (bt a0 0)).bind fun t146 => (if t146 ≥ 0 then (some (5, 1)) else ((strings_IndexByte.f (⟨#[40, 41, 91, 93, 123, 125, 58]⟩ : ByteArray) (bt a0 0)).bind fun t147 => (if t147 ≥ 0 then (some (6, 1)) else ((strings_TrimPrefix.f a0 (⟨#[95]⟩ : ByteArray)).bind fun t148 => ((run_figure.f t148).bind fun t149 => (if 0 ≤ (wrap64 ((wrap64 ((a0.size : Int) - (t148.size : Int))) + t149)) then (if (wrap64 ((wrap64 ((a0.size : Int) - (t148.size : Int))) + t149)) ≤ (a0.size : Int) then ((lex_Number.f k (a0.extract 0 ((wrap64 ((wrap64 ((a0.size : Int) - (t148.size : Int))) + t149)) : Int).toNat)).bind fun bt150 => (if bt150.2 = true then (some (1, wrap64 ((wrap64 ((a0.size : Int) - (t148.size : Int))) + t149))) else (some (0, 0)))) else (none)) else (none))))))))))) = some (r1, r2) := H
      have A7 := Aside0.mk A70
      clear A70
      by_cases c8 : t143 = true
      · subst c8
        have H1 : ((run_verb.f a0).bind fun t144 => (some (3, t144))) = some (r1, r2) := by rw [if_pos rfl] at H; exact H
        clear H
        have H := H1
        clear H1
        replace H := Option.bind_eq_some_iff.mp H
        obtain ⟨t144, A90, H⟩ := H
        replace H : (some (3, t144)) = some (r1, r2) := H
        have A9 := Aside0.mk A90
        clear A90
        simp only [Option.some.injEq, Prod.mk.injEq] at H
        obtain ⟨rfl, rfl⟩ := H
        have p3 : 0 ≤ (0 : Int) := (by omega)
        have q3 : 0 < a0.size := (by have : (0 : Int) < (a0.size : Int) := of_decide_eq_true (by first | (with_reducible assumption) | assumption); omega)
        have hx3 : ∀ h : 0 < a0.size, ((a0[0]'h).toNat : Int) = bt a0 0 := bt_at a0 0
        clear p3
        have qi3 : (0 < (a0.size : Int)) = True := eq_true (of_decide_eq_true (by first | (with_reducible assumption) | assumption))
        replace q3 := eq_true q3
        go_enter Try.func65, Try.ntmps65
        go_wp2_with (first | ((with_reducible refine gate_callee (f := 84) rfl ?_); refine goesL_ (some 13) rfl rfl Try.func84 (by kernel_rfl) rfl #[.int .u8 (bt a0 0)] rfl (by (try simp only [List.map_toArray, List.map_cons, List.map_nil]); first | done | rfl | (simp only [List.length_drop, List.length_take]; rfl)) ?_; (with_reducible refine (lex_small.calls (bt a0 0) false _ A4.out).mono ?_); rintro e w' ⟨rfl, ⟨nd, rfl⟩⟩; refine ⟨_, rfl, ?_⟩) | ((with_reducible refine gate_callee (f := 88) rfl ?_); refine goesL_ (some 18) rfl rfl Try.func88 (by kernel_rfl) rfl #[.int .u8 (bt a0 0)] rfl (by (try simp only [List.map_toArray, List.map_cons, List.map_nil]); first | done | rfl | (simp only [List.length_drop, List.length_take]; rfl)) ?_; (with_reducible refine (lex_great.calls (bt a0 0) true _ A7.out).mono ?_); rintro e w' ⟨rfl, ⟨nd, rfl⟩⟩; refine ⟨_, rfl, ?_⟩) | ((with_reducible refine gate_callee (f := 85) rfl ?_); refine goesL_ (some 20) rfl rfl Try.func85 (by kernel_rfl) rfl #[.string a0, .func (.func 89) #[] #[]] rfl (by (try simp only [List.map_toArray, List.map_cons, List.map_nil]); first | done | rfl | (simp only [List.length_drop, List.length_take]; rfl)) ?_; (with_reducible refine (run_verb.calls a0  t144 _ A9.out).mono ?_); rintro e w' ⟨rfl, ⟨nd, rfl⟩⟩; refine ⟨_, rfl, ?_⟩))
        go_ret2
        exact ⟨by first | rfl | (simp [errW_none, errW_some] <;> rfl) | (simp [*, errW_none, errW_some] <;> rfl), by repeat (first | (with_reducible first | exact HB.out | apply below_alloc | apply pw_below_drewN | apply below_drew1) | exact HB.out)⟩
      · replace c8 := Bool.eq_false_iff.mpr c8
        subst c8
        have H1 : ((strings_IndexByte.f (⟨#[43, 45, 42, 37, 33, 38, 124, 60, 62, 61, 126, 44, 35, 94, 36, 63, 64]⟩ : ByteArray) (bt a0 0)).bind fun t145 => (if t145 ≥ 0 then (some (4, 1)) else ((strings_IndexByte.f (⟨#[39, 47, 92, 46, 96]⟩ : ByteArray) (bt a0 0)).bind fun t146 => (if t146 ≥ 0 then (some (5, 1)) else ((strings_IndexByte.f (⟨#[40, 41, 91, 93, 123, 125, 58]⟩ : ByteArray) (bt a0 0)).bind fun t147 => (if t147 ≥ 0 then (some (6, 1)) else ((strings_TrimPrefix.f a0 (⟨#[95]⟩ : ByteArray)).bind fun t148 => ((run_figure.f t148).bind fun t149 => (if 0 ≤ (wrap64 ((wrap64 ((a0.size : Int) - (t148.size : Int))) + t149)) then (if (wrap64 ((wrap64 ((a0.size : Int) - (t148.size : Int))) + t149)) ≤ (a0.size : Int) then ((lex_Number.f k (a0.extract 0 ((wrap64 ((wrap64 ((a0.size : Int) - (t148.size : Int))) + t149)) : Int).toNat)).bind fun bt150 => (if bt150.2 = true then (some (1, wrap64 ((wrap64 ((a0.size : Int) - (t148.size : Int))) + t149))) else (some (0, 0)))) else (none)) else (none)))))))))) = some (r1, r2) := by rw [if_neg (show ¬ (false = true) by decide)] at H; exact H
        clear H
        have H := H1
        clear H1
        replace H := Option.bind_eq_some_iff.mp H
        obtain ⟨t145, A100, H⟩ := H
        replace H : (if t145 ≥ 0 then (some (4, 1)) else ((strings_IndexByte.f (⟨#[39, 47, 92, 46, 96]⟩ : ByteArray) (bt a0 0)).bind fun t146 => (if t146 ≥ 0 then (some (5, 1)) else ((strings_IndexByte.f (⟨#[40, 41, 91, 93, 123, 125, 58]⟩ : ByteArray) (bt a0 0)).bind fun t147 => (if t147 ≥ 0 then (some (6, 1)) else ((strings_TrimPrefix.f a0 (⟨#[95]⟩ : ByteArray)).bind fun t148 => ((run_figure.f t148).bind fun t149 => (if 0 ≤ (wrap64 ((wrap64 ((a0.size : Int) - (t148.size : Int))) + t149)) then (if (wrap64 ((wrap64 ((a0.size : Int) - (t148.size : Int))) + t149)) ≤ (a0.size : Int) then ((lex_Number.f k (a0.extract 0 ((wrap64 ((wrap64 ((a0.size : Int) - (t148.size : Int))) + t149)) : Int).toNat)).bind fun bt150 => (if bt150.2 = true then (some (1, wrap64 ((wrap64 ((a0.size : Int) - (t148.size : Int))) + t149))) else (some (0, 0)))) else (none)) else (none))))))))) = some (r1, r2) := H
        have A10 := Aside0.mk A100
        clear A100
        by_cases c11 : t145 ≥ 0
        · rw [if_pos c11] at H
          have c11b0 : decide (0 ≤ t145) = true := decide_eq_true c11
          clear c11
          simp only [Option.some.injEq, Prod.mk.injEq] at H
          obtain ⟨rfl, rfl⟩ := H
          have p3 : 0 ≤ (0 : Int) := (by omega)
          have q3 : 0 < a0.size := (by have : (0 : Int) < (a0.size : Int) := of_decide_eq_true (by first | (with_reducible assumption) | assumption); omega)
          have hx3 : ∀ h : 0 < a0.size, ((a0[0]'h).toNat : Int) = bt a0 0 := bt_at a0 0
          clear p3
          have qi3 : (0 < (a0.size : Int)) = True := eq_true (of_decide_eq_true (by first | (with_reducible assumption) | assumption))
          replace q3 := eq_true q3
          go_enter Try.func65, Try.ntmps65
          go_wp2_with (first | ((with_reducible refine gate_callee (f := 84) rfl ?_); refine goesL_ (some 13) rfl rfl Try.func84 (by kernel_rfl) rfl #[.int .u8 (bt a0 0)] rfl (by (try simp only [List.map_toArray, List.map_cons, List.map_nil]); first | done | rfl | (simp only [List.length_drop, List.length_take]; rfl)) ?_; (with_reducible refine (lex_small.calls (bt a0 0) false _ A4.out).mono ?_); rintro e w' ⟨rfl, ⟨nd, rfl⟩⟩; refine ⟨_, rfl, ?_⟩) | ((with_reducible refine gate_callee (f := 88) rfl ?_); refine goesL_ (some 18) rfl rfl Try.func88 (by kernel_rfl) rfl #[.int .u8 (bt a0 0)] rfl (by (try simp only [List.map_toArray, List.map_cons, List.map_nil]); first | done | rfl | (simp only [List.length_drop, List.length_take]; rfl)) ?_; (with_reducible refine (lex_great.calls (bt a0 0) false _ A7.out).mono ?_); rintro e w' ⟨rfl, ⟨nd, rfl⟩⟩; refine ⟨_, rfl, ?_⟩) | ((with_reducible refine gate_callee (f := 90) rfl ?_); refine goesL_ (some 23) rfl rfl Try.func90 (by kernel_rfl) rfl #[.string (⟨#[43, 45, 42, 37, 33, 38, 124, 60, 62, 61, 126, 44, 35, 94, 36, 63, 64]⟩ : ByteArray), .int .u8 (bt a0 0)] rfl (by (try simp only [List.map_toArray, List.map_cons, List.map_nil]); first | done | rfl | (simp only [List.length_drop, List.length_take]; rfl)) ?_; (with_reducible refine (strings_IndexByte.calls (⟨#[43, 45, 42, 37, 33, 38, 124, 60, 62, 61, 126, 44, 35, 94, 36, 63, 64]⟩ : ByteArray) (bt a0 0) t145 _ A10.out).mono ?_); rintro e w' ⟨rfl, ⟨nd, rfl⟩⟩; refine ⟨_, rfl, ?_⟩))
          go_ret2
          exact ⟨by first | rfl | (simp [errW_none, errW_some] <;> rfl) | (simp [*, errW_none, errW_some] <;> rfl), by repeat (first | (with_reducible first | exact HB.out | apply below_alloc | apply pw_below_drewN | apply below_drew1) | exact HB.out)⟩
        · rw [if_neg c11] at H
          have c11b0 : decide (0 ≤ t145) = false := decide_eq_false c11
          clear c11
          replace H := Option.bind_eq_some_iff.mp H
          obtain ⟨t146, A120, H⟩ := H
          replace H : (if t146 ≥ 0 then (some (5, 1)) else ((strings_IndexByte.f (⟨#[40, 41, 91, 93, 123, 125, 58]⟩ : ByteArray) (bt a0 0)).bind fun t147 => (if t147 ≥ 0 then (some (6, 1)) else ((strings_TrimPrefix.f a0 (⟨#[95]⟩ : ByteArray)).bind fun t148 => ((run_figure.f t148).bind fun t149 => (if 0 ≤ (wrap64 ((wrap64 ((a0.size : Int) - (t148.size : Int))) + t149)) then (if (wrap64 ((wrap64 ((a0.size : Int) - (t148.size : Int))) + t149)) ≤ (a0.size : Int) then ((lex_Number.f k (a0.extract 0 ((wrap64 ((wrap64 ((a0.size : Int) - (t148.size : Int))) + t149)) : Int).toNat)).bind fun bt150 => (if bt150.2 = true then (some (1, wrap64 ((wrap64 ((a0.size : Int) - (t148.size : Int))) + t149))) else (some (0, 0)))) else (none)) else (none))))))) = some (r1, r2) := H
          have A12 := Aside0.mk A120
          clear A120
          by_cases c13 : t146 ≥ 0
          · rw [if_pos c13] at H
            have c13b0 : decide (0 ≤ t146) = true := decide_eq_true c13
            clear c13
            simp only [Option.some.injEq, Prod.mk.injEq] at H
            obtain ⟨rfl, rfl⟩ := H
            have p3 : 0 ≤ (0 : Int) := (by omega)
            have q3 : 0 < a0.size := (by have : (0 : Int) < (a0.size : Int) := of_decide_eq_true (by first | (with_reducible assumption) | assumption); omega)
            have hx3 : ∀ h : 0 < a0.size, ((a0[0]'h).toNat : Int) = bt a0 0 := bt_at a0 0
            clear p3
            have qi3 : (0 < (a0.size : Int)) = True := eq_true (of_decide_eq_true (by first | (with_reducible assumption) | assumption))
            replace q3 := eq_true q3
            go_enter Try.func65, Try.ntmps65
            go_wp2_with (first | ((with_reducible refine gate_callee (f := 84) rfl ?_); refine goesL_ (some 13) rfl rfl Try.func84 (by kernel_rfl) rfl #[.int .u8 (bt a0 0)] rfl (by (try simp only [List.map_toArray, List.map_cons, List.map_nil]); first | done | rfl | (simp only [List.length_drop, List.length_take]; rfl)) ?_; (with_reducible refine (lex_small.calls (bt a0 0) false _ A4.out).mono ?_); rintro e w' ⟨rfl, ⟨nd, rfl⟩⟩; refine ⟨_, rfl, ?_⟩) | ((with_reducible refine gate_callee (f := 88) rfl ?_); refine goesL_ (some 18) rfl rfl Try.func88 (by kernel_rfl) rfl #[.int .u8 (bt a0 0)] rfl (by (try simp only [List.map_toArray, List.map_cons, List.map_nil]); first | done | rfl | (simp only [List.length_drop, List.length_take]; rfl)) ?_; (with_reducible refine (lex_great.calls (bt a0 0) false _ A7.out).mono ?_); rintro e w' ⟨rfl, ⟨nd, rfl⟩⟩; refine ⟨_, rfl, ?_⟩) | ((with_reducible refine gate_callee (f := 90) rfl ?_); refine goesL_ (some 23) rfl rfl Try.func90 (by kernel_rfl) rfl #[.string (⟨#[43, 45, 42, 37, 33, 38, 124, 60, 62, 61, 126, 44, 35, 94, 36, 63, 64]⟩ : ByteArray), .int .u8 (bt a0 0)] rfl (by (try simp only [List.map_toArray, List.map_cons, List.map_nil]); first | done | rfl | (simp only [List.length_drop, List.length_take]; rfl)) ?_; (with_reducible refine (strings_IndexByte.calls (⟨#[43, 45, 42, 37, 33, 38, 124, 60, 62, 61, 126, 44, 35, 94, 36, 63, 64]⟩ : ByteArray) (bt a0 0) t145 _ A10.out).mono ?_); rintro e w' ⟨rfl, ⟨nd, rfl⟩⟩; refine ⟨_, rfl, ?_⟩) | ((with_reducible refine gate_callee (f := 90) rfl ?_); refine goesL_ (some 27) rfl rfl Try.func90 (by kernel_rfl) rfl #[.string (⟨#[39, 47, 92, 46, 96]⟩ : ByteArray), .int .u8 (bt a0 0)] rfl (by (try simp only [List.map_toArray, List.map_cons, List.map_nil]); first | done | rfl | (simp only [List.length_drop, List.length_take]; rfl)) ?_; (with_reducible refine (strings_IndexByte.calls (⟨#[39, 47, 92, 46, 96]⟩ : ByteArray) (bt a0 0) t146 _ A12.out).mono ?_); rintro e w' ⟨rfl, ⟨nd, rfl⟩⟩; refine ⟨_, rfl, ?_⟩))
            go_ret2
            exact ⟨by first | rfl | (simp [errW_none, errW_some] <;> rfl) | (simp [*, errW_none, errW_some] <;> rfl), by repeat (first | (with_reducible first | exact HB.out | apply below_alloc | apply pw_below_drewN | apply below_drew1) | exact HB.out)⟩
          · rw [if_neg c13] at H
            have c13b0 : decide (0 ≤ t146) = false := decide_eq_false c13
            clear c13
            replace H := Option.bind_eq_some_iff.mp H
            obtain ⟨t147, A140, H⟩ := H
            replace H : (if t147 ≥ 0 then (some (6, 1)) else ((strings_TrimPrefix.f a0 (⟨#[95]⟩ : ByteArray)).bind fun t148 => ((run_figure.f t148).bind fun t149 => (if 0 ≤ (wrap64 ((wrap64 ((a0.size : Int) - (t148.size : Int))) + t149)) then (if (wrap64 ((wrap64 ((a0.size : Int) - (t148.size : Int))) + t149)) ≤ (a0.size : Int) then ((lex_Number.f k (a0.extract 0 ((wrap64 ((wrap64 ((a0.size : Int) - (t148.size : Int))) + t149)) : Int).toNat)).bind fun bt150 => (if bt150.2 = true then (some (1, wrap64 ((wrap64 ((a0.size : Int) - (t148.size : Int))) + t149))) else (some (0, 0)))) else (none)) else (none))))) = some (r1, r2) := H
            have A14 := Aside0.mk A140
            clear A140
            by_cases c15 : t147 ≥ 0
            · rw [if_pos c15] at H
              have c15b0 : decide (0 ≤ t147) = true := decide_eq_true c15
              clear c15
              simp only [Option.some.injEq, Prod.mk.injEq] at H
              obtain ⟨rfl, rfl⟩ := H
              have p3 : 0 ≤ (0 : Int) := (by omega)
              have q3 : 0 < a0.size := (by have : (0 : Int) < (a0.size : Int) := of_decide_eq_true (by first | (with_reducible assumption) | assumption); omega)
              have hx3 : ∀ h : 0 < a0.size, ((a0[0]'h).toNat : Int) = bt a0 0 := bt_at a0 0
              clear p3
              have qi3 : (0 < (a0.size : Int)) = True := eq_true (of_decide_eq_true (by first | (with_reducible assumption) | assumption))
              replace q3 := eq_true q3
              go_enter Try.func65, Try.ntmps65
              go_wp2_with (first | ((with_reducible refine gate_callee (f := 84) rfl ?_); refine goesL_ (some 13) rfl rfl Try.func84 (by kernel_rfl) rfl #[.int .u8 (bt a0 0)] rfl (by (try simp only [List.map_toArray, List.map_cons, List.map_nil]); first | done | rfl | (simp only [List.length_drop, List.length_take]; rfl)) ?_; (with_reducible refine (lex_small.calls (bt a0 0) false _ A4.out).mono ?_); rintro e w' ⟨rfl, ⟨nd, rfl⟩⟩; refine ⟨_, rfl, ?_⟩) | ((with_reducible refine gate_callee (f := 88) rfl ?_); refine goesL_ (some 18) rfl rfl Try.func88 (by kernel_rfl) rfl #[.int .u8 (bt a0 0)] rfl (by (try simp only [List.map_toArray, List.map_cons, List.map_nil]); first | done | rfl | (simp only [List.length_drop, List.length_take]; rfl)) ?_; (with_reducible refine (lex_great.calls (bt a0 0) false _ A7.out).mono ?_); rintro e w' ⟨rfl, ⟨nd, rfl⟩⟩; refine ⟨_, rfl, ?_⟩) | ((with_reducible refine gate_callee (f := 90) rfl ?_); refine goesL_ (some 23) rfl rfl Try.func90 (by kernel_rfl) rfl #[.string (⟨#[43, 45, 42, 37, 33, 38, 124, 60, 62, 61, 126, 44, 35, 94, 36, 63, 64]⟩ : ByteArray), .int .u8 (bt a0 0)] rfl (by (try simp only [List.map_toArray, List.map_cons, List.map_nil]); first | done | rfl | (simp only [List.length_drop, List.length_take]; rfl)) ?_; (with_reducible refine (strings_IndexByte.calls (⟨#[43, 45, 42, 37, 33, 38, 124, 60, 62, 61, 126, 44, 35, 94, 36, 63, 64]⟩ : ByteArray) (bt a0 0) t145 _ A10.out).mono ?_); rintro e w' ⟨rfl, ⟨nd, rfl⟩⟩; refine ⟨_, rfl, ?_⟩) | ((with_reducible refine gate_callee (f := 90) rfl ?_); refine goesL_ (some 27) rfl rfl Try.func90 (by kernel_rfl) rfl #[.string (⟨#[39, 47, 92, 46, 96]⟩ : ByteArray), .int .u8 (bt a0 0)] rfl (by (try simp only [List.map_toArray, List.map_cons, List.map_nil]); first | done | rfl | (simp only [List.length_drop, List.length_take]; rfl)) ?_; (with_reducible refine (strings_IndexByte.calls (⟨#[39, 47, 92, 46, 96]⟩ : ByteArray) (bt a0 0) t146 _ A12.out).mono ?_); rintro e w' ⟨rfl, ⟨nd, rfl⟩⟩; refine ⟨_, rfl, ?_⟩) | ((with_reducible refine gate_callee (f := 90) rfl ?_); refine goesL_ (some 31) rfl rfl Try.func90 (by kernel_rfl) rfl #[.string (⟨#[40, 41, 91, 93, 123, 125, 58]⟩ : ByteArray), .int .u8 (bt a0 0)] rfl (by (try simp only [List.map_toArray, List.map_cons, List.map_nil]); first | done | rfl | (simp only [List.length_drop, List.length_take]; rfl)) ?_; (with_reducible refine (strings_IndexByte.calls (⟨#[40, 41, 91, 93, 123, 125, 58]⟩ : ByteArray) (bt a0 0) t147 _ A14.out).mono ?_); rintro e w' ⟨rfl, ⟨nd, rfl⟩⟩; refine ⟨_, rfl, ?_⟩))
              go_ret2
              exact ⟨by first | rfl | (simp [errW_none, errW_some] <;> rfl) | (simp [*, errW_none, errW_some] <;> rfl), by repeat (first | (with_reducible first | exact HB.out | apply below_alloc | apply pw_below_drewN | apply below_drew1) | exact HB.out)⟩
            · rw [if_neg c15] at H
              have c15b0 : decide (0 ≤ t147) = false := decide_eq_false c15
              clear c15
              replace H := Option.bind_eq_some_iff.mp H
              obtain ⟨t148, A160, H⟩ := H
              replace H : ((run_figure.f t148).bind fun t149 => (if 0 ≤ (wrap64 ((wrap64 ((a0.size : Int) - (t148.size : Int))) + t149)) then (if (wrap64 ((wrap64 ((a0.size : Int) - (t148.size : Int))) + t149)) ≤ (a0.size : Int) then ((lex_Number.f k (a0.extract 0 ((wrap64 ((wrap64 ((a0.size : Int) - (t148.size : Int))) + t149)) : Int).toNat)).bind fun bt150 => (if bt150.2 = true then (some (1, wrap64 ((wrap64 ((a0.size : Int) - (t148.size : Int))) + t149))) else (some (0, 0)))) else (none)) else (none))) = some (r1, r2) := H
              have A16 := Aside0.mk A160
              clear A160
              replace H := Option.bind_eq_some_iff.mp H
              obtain ⟨t149, A170, H⟩ := H
              replace H : (if 0 ≤ (wrap64 ((wrap64 ((a0.size : Int) - (t148.size : Int))) + t149)) then (if (wrap64 ((wrap64 ((a0.size : Int) - (t148.size : Int))) + t149)) ≤ (a0.size : Int) then ((lex_Number.f k (a0.extract 0 ((wrap64 ((wrap64 ((a0.size : Int) - (t148.size : Int))) + t149)) : Int).toNat)).bind fun bt150 => (if bt150.2 = true then (some (1, wrap64 ((wrap64 ((a0.size : Int) - (t148.size : Int))) + t149))) else (some (0, 0)))) else (none)) else (none)) = some (r1, r2) := H
              have A17 := Aside0.mk A170
              clear A170
              obtain ⟨ji18, hji18⟩ : ∃ j_ : Int, (wrap64 ((wrap64 ((a0.size : Int) - (t148.size : Int))) + t149)) = j_ := ⟨_, rfl⟩
              replace H : (if 0 ≤ (ji18) then (if (ji18) ≤ (a0.size : Int) then ((lex_Number.f k (a0.extract 0 ((ji18) : Int).toNat)).bind fun bt150 => (if bt150.2 = true then (some (1, ji18)) else (some (0, 0)))) else (none)) else (none)) = some (r1, r2) := by first | (rw [hji18] at H; exact H) | (simp only [hji18] at H ⊢; exact H)
              (try rw [hji18] at A4)
              (try rw [hji18] at A7)
              (try rw [hji18] at A10)
              (try rw [hji18] at A12)
              (try rw [hji18] at A14)
              (try rw [hji18] at A16)
              (try rw [hji18] at A17)
              have hji18w : (IntKind.i64.wrap ((wrap64 ((a0.size : Int) - (t148.size : Int))) + t149)) = ji18 := (i64_w _).trans hji18
              by_cases c19 : 0 ≤ (ji18)
              · rw [if_pos c19] at H
                have c19b0 := eq_true c19
                have c19b1 : decide (0 ≤ (ji18)) = true := decide_eq_true c19
                clear c19
                by_cases c20 : (ji18) ≤ (a0.size : Int)
                · rw [if_pos c20] at H
                  have c20b0 := eq_true c20
                  have c20b1 : decide ((ji18) ≤ (a0.size : Int)) = true := decide_eq_true c20
                  clear c20
                  replace H := Option.bind_eq_some_iff.mp H
                  obtain ⟨⟨t150, t151⟩, A210, H⟩ := H
                  replace H : (if t151 = true then (some (1, ji18)) else (some (0, 0))) = some (r1, r2) := H
                  have A21 := Aside0.mk A210
                  clear A210
                  by_cases c22 : t151 = true
                  · subst c22
                    have H1 : (some (1, ji18)) = some (r1, r2) := by rw [if_pos rfl] at H; exact H
                    clear H
                    have H := H1
                    clear H1
                    simp only [Option.some.injEq, Prod.mk.injEq] at H
                    obtain ⟨rfl, rfl⟩ := H
                    have p3 : 0 ≤ (0 : Int) := (by omega)
                    have q3 : 0 < a0.size := (by have : (0 : Int) < (a0.size : Int) := of_decide_eq_true (by first | (with_reducible assumption) | assumption); omega)
                    have hx3 : ∀ h : 0 < a0.size, ((a0[0]'h).toNat : Int) = bt a0 0 := bt_at a0 0
                    clear p3
                    have qi3 : (0 < (a0.size : Int)) = True := eq_true (of_decide_eq_true (by first | (with_reducible assumption) | assumption))
                    replace q3 := eq_true q3
                    go_enter Try.func65, Try.ntmps65
                    go_wp2_with (first | ((with_reducible refine gate_callee (f := 84) rfl ?_); refine goesL_ (some 13) rfl rfl Try.func84 (by kernel_rfl) rfl #[.int .u8 (bt a0 0)] rfl (by (try simp only [List.map_toArray, List.map_cons, List.map_nil]); first | done | rfl | (simp only [List.length_drop, List.length_take]; rfl)) ?_; (with_reducible refine (lex_small.calls (bt a0 0) false _ A4.out).mono ?_); rintro e w' ⟨rfl, ⟨nd, rfl⟩⟩; refine ⟨_, rfl, ?_⟩) | ((with_reducible refine gate_callee (f := 88) rfl ?_); refine goesL_ (some 18) rfl rfl Try.func88 (by kernel_rfl) rfl #[.int .u8 (bt a0 0)] rfl (by (try simp only [List.map_toArray, List.map_cons, List.map_nil]); first | done | rfl | (simp only [List.length_drop, List.length_take]; rfl)) ?_; (with_reducible refine (lex_great.calls (bt a0 0) false _ A7.out).mono ?_); rintro e w' ⟨rfl, ⟨nd, rfl⟩⟩; refine ⟨_, rfl, ?_⟩) | ((with_reducible refine gate_callee (f := 90) rfl ?_); refine goesL_ (some 23) rfl rfl Try.func90 (by kernel_rfl) rfl #[.string (⟨#[43, 45, 42, 37, 33, 38, 124, 60, 62, 61, 126, 44, 35, 94, 36, 63, 64]⟩ : ByteArray), .int .u8 (bt a0 0)] rfl (by (try simp only [List.map_toArray, List.map_cons, List.map_nil]); first | done | rfl | (simp only [List.length_drop, List.length_take]; rfl)) ?_; (with_reducible refine (strings_IndexByte.calls (⟨#[43, 45, 42, 37, 33, 38, 124, 60, 62, 61, 126, 44, 35, 94, 36, 63, 64]⟩ : ByteArray) (bt a0 0) t145 _ A10.out).mono ?_); rintro e w' ⟨rfl, ⟨nd, rfl⟩⟩; refine ⟨_, rfl, ?_⟩) | ((with_reducible refine gate_callee (f := 90) rfl ?_); refine goesL_ (some 27) rfl rfl Try.func90 (by kernel_rfl) rfl #[.string (⟨#[39, 47, 92, 46, 96]⟩ : ByteArray), .int .u8 (bt a0 0)] rfl (by (try simp only [List.map_toArray, List.map_cons, List.map_nil]); first | done | rfl | (simp only [List.length_drop, List.length_take]; rfl)) ?_; (with_reducible refine (strings_IndexByte.calls (⟨#[39, 47, 92, 46, 96]⟩ : ByteArray) (bt a0 0) t146 _ A12.out).mono ?_); rintro e w' ⟨rfl, ⟨nd, rfl⟩⟩; refine ⟨_, rfl, ?_⟩) | ((with_reducible refine gate_callee (f := 90) rfl ?_); refine goesL_ (some 31) rfl rfl Try.func90 (by kernel_rfl) rfl #[.string (⟨#[40, 41, 91, 93, 123, 125, 58]⟩ : ByteArray), .int .u8 (bt a0 0)] rfl (by (try simp only [List.map_toArray, List.map_cons, List.map_nil]); first | done | rfl | (simp only [List.length_drop, List.length_take]; rfl)) ?_; (with_reducible refine (strings_IndexByte.calls (⟨#[40, 41, 91, 93, 123, 125, 58]⟩ : ByteArray) (bt a0 0) t147 _ A14.out).mono ?_); rintro e w' ⟨rfl, ⟨nd, rfl⟩⟩; refine ⟨_, rfl, ?_⟩) | ((with_reducible refine gate_callee (f := 80) rfl ?_); refine goesL_ (some 34) rfl rfl Try.func80 (by kernel_rfl) rfl #[.string a0, .string (⟨#[95]⟩ : ByteArray)] rfl (by (try simp only [List.map_toArray, List.map_cons, List.map_nil]); first | done | rfl | (simp only [List.length_drop, List.length_take]; rfl)) ?_; (with_reducible refine (strings_TrimPrefix.calls a0 (⟨#[95]⟩ : ByteArray) t148 _ A16.out).mono ?_); rintro e w' ⟨rfl, ⟨nd, rfl⟩⟩; refine ⟨_, rfl, ?_⟩) | ((with_reducible refine gate_callee (f := 85) rfl ?_); refine goesL_ (some 41) rfl rfl Try.func85 (by kernel_rfl) rfl #[.string t148, .func (.func 87) #[] #[]] rfl (by (try simp only [List.map_toArray, List.map_cons, List.map_nil]); first | done | rfl | (simp only [List.length_drop, List.length_take]; rfl)) ?_; (with_reducible refine (run_figure.calls t148  t149 _ A17.out).mono ?_); rintro e w' ⟨rfl, ⟨nd, rfl⟩⟩; refine ⟨_, rfl, ?_⟩) | ((with_reducible refine gate_callee (f := 91) rfl ?_); refine goesL_ (some 47) rfl rfl Try.func91 (by kernel_rfl) rfl #[.string (a0.extract 0 ((ji18) : Int).toNat)] rfl (by (try simp only [List.map_toArray, List.map_cons, List.map_nil]); first | done | (simp only [hji18]; rfl) | rfl | (simp only [List.length_drop, List.length_take]; rfl)) ?_; (with_reducible refine (lex_Number.calls k (a0.extract 0 ((ji18) : Int).toNat) t150 true _ A21.out).mono ?_); rintro e w23 ⟨rfl, hb⟩; refine ⟨_, rfl, ?_⟩; have n0_ := Aside0.mk (below_step (by repeat (first | (with_reducible first | exact HB.out | apply below_alloc | apply pw_below_drewN | apply below_drew1) | exact HB.out)) hb); clear HB; have HB := n0_; clear n0_; (try clear hb); (try clear hb2); (try clear hk); (try clear hi)))
                    go_ret2
                    exact ⟨by first | rfl | (simp [errW_none, errW_some] <;> rfl) | (simp only [← hji18]; first | rfl | (simp [errW_none, errW_some] <;> rfl)) | (simp [*, errW_none, errW_some] <;> rfl), by repeat (first | (with_reducible first | exact HB.out | apply below_alloc | apply pw_below_drewN | apply below_drew1) | exact HB.out)⟩
                  · replace c22 := Bool.eq_false_iff.mpr c22
                    subst c22
                    have H1 : (some (0, 0)) = some (r1, r2) := by rw [if_neg (show ¬ (false = true) by decide)] at H; exact H
                    clear H
                    have H := H1
                    clear H1
                    simp only [Option.some.injEq, Prod.mk.injEq] at H
                    obtain ⟨rfl, rfl⟩ := H
                    have p3 : 0 ≤ (0 : Int) := (by omega)
                    have q3 : 0 < a0.size := (by have : (0 : Int) < (a0.size : Int) := of_decide_eq_true (by first | (with_reducible assumption) | assumption); omega)
                    have hx3 : ∀ h : 0 < a0.size, ((a0[0]'h).toNat : Int) = bt a0 0 := bt_at a0 0
                    clear p3
                    have qi3 : (0 < (a0.size : Int)) = True := eq_true (of_decide_eq_true (by first | (with_reducible assumption) | assumption))
                    replace q3 := eq_true q3
                    go_enter Try.func65, Try.ntmps65
                    go_wp2_with (first | ((with_reducible refine gate_callee (f := 84) rfl ?_); refine goesL_ (some 13) rfl rfl Try.func84 (by kernel_rfl) rfl #[.int .u8 (bt a0 0)] rfl (by (try simp only [List.map_toArray, List.map_cons, List.map_nil]); first | done | rfl | (simp only [List.length_drop, List.length_take]; rfl)) ?_; (with_reducible refine (lex_small.calls (bt a0 0) false _ A4.out).mono ?_); rintro e w' ⟨rfl, ⟨nd, rfl⟩⟩; refine ⟨_, rfl, ?_⟩) | ((with_reducible refine gate_callee (f := 88) rfl ?_); refine goesL_ (some 18) rfl rfl Try.func88 (by kernel_rfl) rfl #[.int .u8 (bt a0 0)] rfl (by (try simp only [List.map_toArray, List.map_cons, List.map_nil]); first | done | rfl | (simp only [List.length_drop, List.length_take]; rfl)) ?_; (with_reducible refine (lex_great.calls (bt a0 0) false _ A7.out).mono ?_); rintro e w' ⟨rfl, ⟨nd, rfl⟩⟩; refine ⟨_, rfl, ?_⟩) | ((with_reducible refine gate_callee (f := 90) rfl ?_); refine goesL_ (some 23) rfl rfl Try.func90 (by kernel_rfl) rfl #[.string (⟨#[43, 45, 42, 37, 33, 38, 124, 60, 62, 61, 126, 44, 35, 94, 36, 63, 64]⟩ : ByteArray), .int .u8 (bt a0 0)] rfl (by (try simp only [List.map_toArray, List.map_cons, List.map_nil]); first | done | rfl | (simp only [List.length_drop, List.length_take]; rfl)) ?_; (with_reducible refine (strings_IndexByte.calls (⟨#[43, 45, 42, 37, 33, 38, 124, 60, 62, 61, 126, 44, 35, 94, 36, 63, 64]⟩ : ByteArray) (bt a0 0) t145 _ A10.out).mono ?_); rintro e w' ⟨rfl, ⟨nd, rfl⟩⟩; refine ⟨_, rfl, ?_⟩) | ((with_reducible refine gate_callee (f := 90) rfl ?_); refine goesL_ (some 27) rfl rfl Try.func90 (by kernel_rfl) rfl #[.string (⟨#[39, 47, 92, 46, 96]⟩ : ByteArray), .int .u8 (bt a0 0)] rfl (by (try simp only [List.map_toArray, List.map_cons, List.map_nil]); first | done | rfl | (simp only [List.length_drop, List.length_take]; rfl)) ?_; (with_reducible refine (strings_IndexByte.calls (⟨#[39, 47, 92, 46, 96]⟩ : ByteArray) (bt a0 0) t146 _ A12.out).mono ?_); rintro e w' ⟨rfl, ⟨nd, rfl⟩⟩; refine ⟨_, rfl, ?_⟩) | ((with_reducible refine gate_callee (f := 90) rfl ?_); refine goesL_ (some 31) rfl rfl Try.func90 (by kernel_rfl) rfl #[.string (⟨#[40, 41, 91, 93, 123, 125, 58]⟩ : ByteArray), .int .u8 (bt a0 0)] rfl (by (try simp only [List.map_toArray, List.map_cons, List.map_nil]); first | done | rfl | (simp only [List.length_drop, List.length_take]; rfl)) ?_; (with_reducible refine (strings_IndexByte.calls (⟨#[40, 41, 91, 93, 123, 125, 58]⟩ : ByteArray) (bt a0 0) t147 _ A14.out).mono ?_); rintro e w' ⟨rfl, ⟨nd, rfl⟩⟩; refine ⟨_, rfl, ?_⟩) | ((with_reducible refine gate_callee (f := 80) rfl ?_); refine goesL_ (some 34) rfl rfl Try.func80 (by kernel_rfl) rfl #[.string a0, .string (⟨#[95]⟩ : ByteArray)] rfl (by (try simp only [List.map_toArray, List.map_cons, List.map_nil]); first | done | rfl | (simp only [List.length_drop, List.length_take]; rfl)) ?_; (with_reducible refine (strings_TrimPrefix.calls a0 (⟨#[95]⟩ : ByteArray) t148 _ A16.out).mono ?_); rintro e w' ⟨rfl, ⟨nd, rfl⟩⟩; refine ⟨_, rfl, ?_⟩) | ((with_reducible refine gate_callee (f := 85) rfl ?_); refine goesL_ (some 41) rfl rfl Try.func85 (by kernel_rfl) rfl #[.string t148, .func (.func 87) #[] #[]] rfl (by (try simp only [List.map_toArray, List.map_cons, List.map_nil]); first | done | rfl | (simp only [List.length_drop, List.length_take]; rfl)) ?_; (with_reducible refine (run_figure.calls t148  t149 _ A17.out).mono ?_); rintro e w' ⟨rfl, ⟨nd, rfl⟩⟩; refine ⟨_, rfl, ?_⟩) | ((with_reducible refine gate_callee (f := 91) rfl ?_); refine goesL_ (some 47) rfl rfl Try.func91 (by kernel_rfl) rfl #[.string (a0.extract 0 ((ji18) : Int).toNat)] rfl (by (try simp only [List.map_toArray, List.map_cons, List.map_nil]); first | done | (simp only [hji18]; rfl) | rfl | (simp only [List.length_drop, List.length_take]; rfl)) ?_; (with_reducible refine (lex_Number.calls k (a0.extract 0 ((ji18) : Int).toNat) t150 false _ A21.out).mono ?_); rintro e w24 ⟨rfl, hb⟩; refine ⟨_, rfl, ?_⟩; have n0_ := Aside0.mk (below_step (by repeat (first | (with_reducible first | exact HB.out | apply below_alloc | apply pw_below_drewN | apply below_drew1) | exact HB.out)) hb); clear HB; have HB := n0_; clear n0_; (try clear hb); (try clear hb2); (try clear hk); (try clear hi)))
                    go_ret2
                    exact ⟨by first | rfl | (simp [errW_none, errW_some] <;> rfl) | (simp only [← hji18]; first | rfl | (simp [errW_none, errW_some] <;> rfl)) | (simp [*, errW_none, errW_some] <;> rfl), by repeat (first | (with_reducible first | exact HB.out | apply below_alloc | apply pw_below_drewN | apply below_drew1) | exact HB.out)⟩
                · rw [if_neg c20] at H
                  exact absurd H (by simp)
              · rw [if_neg c19] at H
                exact absurd H (by simp)
  · rw [if_neg c2] at H
    exact absurd H (by simp)

/-! ### lex_Lex: function 49 -/
def lex_Lex.l0 : Nat → ByteArray → List (S71) → Int → Option ((List (S71)) × Int × Int)
  | 0, _, _, _ => none
  | k + 1, x0, x5, x6 => if x6 < (x0.size : Int) then (if 0 ≤ x6 then (if 0 < 1 then (if (bt x0 x6) = (bt (⟨#[32]⟩ : ByteArray) 0) then (lex_Lex.l0 k x0 x5 (wrap64 (x6 + 1))) else (if x6 ≤ (x0.size : Int) then ((lex_first.f k (x0.extract (x6 : Int).toNat x0.size)).bind fun bt152 => (if bt152.1 = 0 then (some (([] : List (S71)), x6, 2)) else (if x6 ≤ (wrap64 (x6 + bt152.2)) then (if (wrap64 (x6 + bt152.2)) ≤ (x0.size : Int) then (if x5.length < 4398046511104 then (lex_Lex.l0 k x0 (x5 ++ [(⟨bt152.1, x0.extract (x6 : Int).toNat ((wrap64 (x6 + bt152.2)) : Int).toNat, x6⟩ : S71)]) (wrap64 (x6 + bt152.2))) else (none)) else (none)) else (none)))) else (none))) else (none)) else (none)) else (some (x5, 0, 0))
def lex_Lex.f (k : Nat) (a0 : ByteArray) : Option ((List (S71)) × Int × Int) := if (a0.size : Int) > 256 then (some (([] : List (S71)), 0, 8)) else (lex_Lex.l0 k a0 ([] : List (S71)) 0)
theorem lex_Lex.mono_l : ∀ k, (∀ y0 y1 y2, LeO (lex_Lex.l0 k y0 y1 y2) (lex_Lex.l0 (k + 1) y0 y1 y2))
  | 0 => fun _ _ _ r h => by simp [lex_Lex.l0] at h
  | k + 1 => by
    have ih0 := lex_Lex.mono_l k
    · intro y0 y1 y2
      unfold lex_Lex.l0
      repeat' first
      | (with_reducible exact ih0 _ _ _)
      | (with_reducible exact lex_first.mono _ _)
      | (with_reducible exact LeO.refl _)
      | (with_reducible exact LeO.none _)
      | (with_reducible refine LeO.ite ?_ ?_)
      | (with_reducible refine LeO.bind ?_ (fun _ => ?_))
      | exact ih0 _ _ _
      | exact lex_first.mono _ _
      | exact LeO.none _
      | refine LeO.ite ?_ ?_
      | refine LeO.bind ?_ (fun _ => ?_)
theorem lex_Lex.mono : ∀ a0 k, LeO (lex_Lex.f k a0) (lex_Lex.f (k + 1) a0) := by
  intro a0 k
  have ih0 := lex_Lex.mono_l k
  unfold lex_Lex.f
  repeat' first
      | (with_reducible exact ih0 _ _ _)
      | (with_reducible exact lex_first.mono _ _)
      | (with_reducible exact LeO.refl _)
      | (with_reducible exact LeO.none _)
      | (with_reducible refine LeO.ite ?_ ?_)
      | (with_reducible refine LeO.bind ?_ (fun _ => ?_))
      | exact ih0 _ _ _
      | exact lex_first.mono _ _
      | exact LeO.none _
      | refine LeO.ite ?_ ?_
      | refine LeO.bind ?_ (fun _ => ?_)
set_option maxHeartbeats 8000000 in
set_option maxRecDepth 100000 in
theorem lex_Lex.calls (k : Nat) (a0 : ByteArray) (r1 : List (S71)) (r2 : Int) (r3 : Int) (w : World) (h : lex_Lex.f k a0 = some (r1, r2, r3)) :
    Calls Try.prog 49 #[.string a0] w fun e w' => ∃ v0_ : Value, e = .returned (.tuple #[v0_, .int .i64 r2, .int .i64 r3]) ∧ Kd.R k71 71 w' w.heap.size (fun _ => True) v0_ r1 ∧ Below w.heap.size w w' := by
  have hu71 := Try.underlying71
  have HB := Aside0.mk (Below.refl w.heap.size w)
  have H : (if (a0.size : Int) > 256 then (some (([] : List (S71)), 0, 8)) else (lex_Lex.l0 k a0 ([] : List (S71)) 0)) = some (r1, r2, r3) := h
  clear h
  by_cases c2 : (a0.size : Int) > 256
  · rw [if_pos c2] at H
    have c2b0 : decide (256 < (a0.size : Int)) = true := decide_eq_true c2
    have c2b1 : decide (256 < a0.size) = true := decide_eq_true (by omega)
    clear c2
    simp only [Option.some.injEq, Prod.mk.injEq] at H
    obtain ⟨rfl, rfl, rfl⟩ := H
    go_enter Try.func49, Try.ntmps49
    (try go_wp2)
    (try go_step3)
    go_wp2
    repeat (go_quiet (fail); try go_wp2)
    (try rw [Exit.noGoto_ret])
    go_ret3
    exact ⟨_, by first | rfl | (simp [errW_none, errW_some] <;> rfl) | (simp [*, errW_none, errW_some] <;> rfl), by first | exact Kd.R_nil _ _ _ _ _ | exact Kd.N_nil _ _ _ _ _ | exact Kd.V_nil _ _ _ _ _ | exact Kd.Q_nil _ _ _ _ _ | exact Kd.S_nil _ _ _ _ _, by repeat (first | (with_reducible first | exact HB.out | apply below_alloc | apply pw_below_drewN | apply below_drew1) | exact HB.out)⟩
  · rw [if_neg c2] at H
    have c2b0 : decide (256 < (a0.size : Int)) = false := decide_eq_false c2
    have c2b1 : decide (256 < a0.size) = false := decide_eq_false (by omega)
    clear c2
    have H' := Aside0.mk H
    clear H
    go_enter Try.func49, Try.ntmps49
    (try go_wp2)
    (try go_step3)
    go_wp2
    repeat (go_quiet (fail); try go_wp2)
    (try go_step3)
    (try go_wp2)
    go_loopg [5, 6] k (fun kq v5 v6 w' => ∃ (x5_1 : List (S71)) (x6_1 : Int), v6 = .int .i64 x6_1 ∧ Aside0 (lex_Lex.l0 kq a0 x5_1 x6_1 = some (r1, r2, r3)) ∧ Aside0 (kq ≤ k) ∧ Aside0 (Kd.R k71 71 w' w.heap.size (fun _ => True) v5 x5_1) ∧ Aside0 (Below w.heap.size w w'))
    case atStart => exact ⟨(([] : List (S71))), (0), (by first | rfl | (simp; done) | (simp [*]; done)), H', ⟨Nat.le_refl _⟩, ⟨by first | exact Kd.R_nil _ _ _ _ _ | exact Kd.N_nil _ _ _ _ _ | exact Kd.V_nil _ _ _ _ _ | exact Kd.Q_nil _ _ _ _ _ | exact Kd.S_nil _ _ _ _ _⟩, ⟨by repeat (first | (with_reducible first | exact HB.out | apply below_alloc | apply pw_below_drewN | apply below_drew1) | exact HB.out)⟩⟩
    case round =>
      clear H'
      try clear c2
      try clear c2b0
      try clear c2b1
      try clear p2
      obtain ⟨x5_1, x6_1, rfl, HA, HK1, HO_5, HB⟩ := hrel
      cases gk with
      | zero => exact absurd HA.out (by simp [lex_Lex.l0])
      | succ k1 =>
        have H := HA.out
        clear HA
        simp only [lex_Lex.l0] at H
        by_cases c3 : x6_1 < (a0.size : Int)
        · rw [if_pos c3] at H
          have c3b0 : decide (x6_1 < (a0.size : Int)) = true := decide_eq_true c3
          clear c3
          by_cases c4 : 0 ≤ x6_1
          · rw [if_pos c4] at H
            have c4b0 : decide (0 ≤ x6_1) = true := decide_eq_true c4
            clear c4
            by_cases c6 : 0 < 1
            · rw [if_pos c6] at H
              have c6b0 : decide (0 < 1) = true := decide_eq_true c6
              clear c6
              by_cases c8 : (bt a0 x6_1) = (bt (⟨#[32]⟩ : ByteArray) 0)
              · rw [if_pos c8] at H
                have c8b0 : ((bt a0 x6_1) == (bt (⟨#[32]⟩ : ByteArray) 0)) = true := beq_iff_eq.mpr c8
                have c8b1 : ((bt a0 x6_1) != (bt (⟨#[32]⟩ : ByteArray) 0)) = false := bne_eq_false_iff_eq.mpr c8
                clear c8
                have H' := Aside0.mk H
                clear H
                have p5 : 0 ≤ (x6_1 : Int) := of_decide_eq_true (by first | (with_reducible assumption) | assumption)
                have q5 : x6_1 < (a0.size : Int) := of_decide_eq_true (by first | (with_reducible assumption) | assumption)
                have hx5 := bt_at a0 x6_1
                replace p5 := eq_true p5
                replace q5 := eq_true q5
                have p7 : 0 ≤ (0 : Int) := (by omega)
                have q7 : 0 < (1 : Int) := (by omega)
                have hx7 := bt_at (⟨#[32]⟩ : ByteArray) 0
                have hx7L : ∀ (h : 0 < (⟨#[32]⟩ : ByteArray).size), ((((⟨#[32]⟩ : ByteArray)[0]'h).toNat : Nat) : Int) = bt (⟨#[32]⟩ : ByteArray) 0 := fun h => hx7 h
                replace p7 := eq_true p7
                replace q7 := eq_true q7
                go_wp2
                repeat (go_quiet (fail); try go_wp2)
                go_roundg k1
                case measure => have := HK1.out; omega
                case rel => exact ⟨(x5_1), (wrap64 (x6_1 + 1)), (by first | rfl | (simp; done) | (simp [*]; done)), H', ⟨by have := HK1.out; omega⟩, ⟨by (with_reducible repeat (first | apply Kd.R_alloc | apply Kd.R_drewN | apply Kd.R_drew)); exact HO_5.out⟩, ⟨by repeat (first | (with_reducible first | exact HB.out | apply below_alloc | apply pw_below_drewN | apply below_drew1) | exact HB.out)⟩⟩
              · rw [if_neg c8] at H
                have c8b0 : ((bt a0 x6_1) == (bt (⟨#[32]⟩ : ByteArray) 0)) = false := beq_eq_false_iff_ne.mpr c8
                have c8b1 : ((bt a0 x6_1) != (bt (⟨#[32]⟩ : ByteArray) 0)) = true := bne_iff_ne.mpr c8
                have c9b0 := eq_true (of_decide_eq_true (by first | (with_reducible assumption) | assumption) : 0 ≤ x6_1)
                by_cases c10 : x6_1 ≤ (a0.size : Int)
                · rw [if_pos c10] at H
                  have c10b0 := eq_true c10
                  have c10b1 : decide (x6_1 ≤ (a0.size : Int)) = true := decide_eq_true c10
                  clear c10
                  replace H := Option.bind_eq_some_iff.mp H
                  obtain ⟨⟨t152, t153⟩, A110, H⟩ := H
                  replace H : (if t152 = 0 then (some (([] : List (S71)), x6_1, 2)) else (if x6_1 ≤ (wrap64 (x6_1 + t153)) then (if (wrap64 (x6_1 + t153)) ≤ (a0.size : Int) then (if x5_1.length < 4398046511104 then (lex_Lex.l0 k1 a0 (x5_1 ++ [(⟨t152, a0.extract (x6_1 : Int).toNat ((wrap64 (x6_1 + t153)) : Int).toNat, x6_1⟩ : S71)]) (wrap64 (x6_1 + t153))) else (none)) else (none)) else (none))) = some (r1, r2, r3) := H
                  have A11 := Aside0.mk A110
                  clear A110
                  by_cases c12 : t152 = 0
                  · rw [if_pos c12] at H
                    have c12b0 : (t152 == 0) = true := beq_iff_eq.mpr c12
                    have c12b1 : (t152 != 0) = false := bne_eq_false_iff_eq.mpr c12
                    clear c12
                    simp only [Option.some.injEq, Prod.mk.injEq] at H
                    obtain ⟨rfl, rfl, rfl⟩ := H
                    have p5 : 0 ≤ (x6_1 : Int) := of_decide_eq_true (by first | (with_reducible assumption) | assumption)
                    have q5 : x6_1 < (a0.size : Int) := of_decide_eq_true (by first | (with_reducible assumption) | assumption)
                    have hx5 := bt_at a0 x6_1
                    replace p5 := eq_true p5
                    replace q5 := eq_true q5
                    have p7 : 0 ≤ (0 : Int) := (by omega)
                    have q7 : 0 < (1 : Int) := (by omega)
                    have hx7 := bt_at (⟨#[32]⟩ : ByteArray) 0
                    have hx7L : ∀ (h : 0 < (⟨#[32]⟩ : ByteArray).size), ((((⟨#[32]⟩ : ByteArray)[0]'h).toNat : Nat) : Int) = bt (⟨#[32]⟩ : ByteArray) 0 := fun h => hx7 h
                    replace p7 := eq_true p7
                    replace q7 := eq_true q7
                    go_wp2_with (first | (go_at_call 65; (with_reducible refine (lex_first.calls k1 (a0.extract (x6_1 : Int).toNat a0.size) t152 t153 _ A11.out).mono ?_); rintro e w13 ⟨rfl, hb⟩; have n0_ := Aside0.mk (Kd.R_below (by (with_reducible repeat (first | apply Kd.R_alloc | apply Kd.R_drewN | apply Kd.R_drew)); exact HO_5.out) hb); have n1_ := Aside0.mk (below_step (by repeat (first | (with_reducible first | exact HB.out | apply below_alloc | apply pw_below_drewN | apply below_drew1) | exact HB.out)) hb); clear HO_5; clear HB; have HO_5 := n0_; have HB := n1_; clear n0_ n1_; (try clear hb); (try clear hb2); (try clear hk); (try clear hi)))
                    repeat (go_quiet (first | (go_at_call 65; (with_reducible refine (lex_first.calls k1 (a0.extract (x6_1 : Int).toNat a0.size) t152 t153 _ A11.out).mono ?_); rintro e w13 ⟨rfl, hb⟩; have n0_ := Aside0.mk (Kd.R_below (by (with_reducible repeat (first | apply Kd.R_alloc | apply Kd.R_drewN | apply Kd.R_drew)); exact HO_5.out) hb); have n1_ := Aside0.mk (below_step (by repeat (first | (with_reducible first | exact HB.out | apply below_alloc | apply pw_below_drewN | apply below_drew1) | exact HB.out)) hb); clear HO_5; clear HB; have HO_5 := n0_; have HB := n1_; clear n0_ n1_; (try clear hb); (try clear hb2); (try clear hk); (try clear hi))); try go_wp2_with (first | (go_at_call 65; (with_reducible refine (lex_first.calls k1 (a0.extract (x6_1 : Int).toNat a0.size) t152 t153 _ A11.out).mono ?_); rintro e w13 ⟨rfl, hb⟩; have n0_ := Aside0.mk (Kd.R_below (by (with_reducible repeat (first | apply Kd.R_alloc | apply Kd.R_drewN | apply Kd.R_drew)); exact HO_5.out) hb); have n1_ := Aside0.mk (below_step (by repeat (first | (with_reducible first | exact HB.out | apply below_alloc | apply pw_below_drewN | apply below_drew1) | exact HB.out)) hb); clear HO_5; clear HB; have HO_5 := n0_; have HB := n1_; clear n0_ n1_; (try clear hb); (try clear hb2); (try clear hk); (try clear hi))))
                    (try rw [Exit.noGoto_ret])
                    go_ret3
                    exact ⟨_, by first | rfl | (simp [errW_none, errW_some] <;> rfl) | (simp [*, errW_none, errW_some] <;> rfl), by first | exact Kd.R_nil _ _ _ _ _ | exact Kd.N_nil _ _ _ _ _ | exact Kd.V_nil _ _ _ _ _ | exact Kd.Q_nil _ _ _ _ _ | exact Kd.S_nil _ _ _ _ _, by repeat (first | (with_reducible first | exact HB.out | apply below_alloc | apply pw_below_drewN | apply below_drew1) | exact HB.out)⟩
                  · rw [if_neg c12] at H
                    have c12b0 : (t152 == 0) = false := beq_eq_false_iff_ne.mpr c12
                    have c12b1 : (t152 != 0) = true := bne_iff_ne.mpr c12
                    have c14b0 := eq_true (of_decide_eq_true (by first | (with_reducible assumption) | assumption) : 0 ≤ x6_1)
                    by_cases c15 : x6_1 ≤ (wrap64 (x6_1 + t153))
                    · rw [if_pos c15] at H
                      have c15b0 := eq_true c15
                      have c15b1 : decide (x6_1 ≤ (wrap64 (x6_1 + t153))) = true := decide_eq_true c15
                      by_cases c16 : (wrap64 (x6_1 + t153)) ≤ (a0.size : Int)
                      · rw [if_pos c16] at H
                        have c16b0 := eq_true c16
                        have c16b1 : decide ((wrap64 (x6_1 + t153)) ≤ (a0.size : Int)) = true := decide_eq_true c16
                        by_cases c17 : x5_1.length < 4398046511104
                        · rw [if_pos c17] at H
                          have LMc17 := Aside0.mk c17
                          clear c17
                          obtain ⟨y154, hy154⟩ : ∃ y_ : List (S71), y_ = (x5_1 ++ [(⟨t152, a0.extract (x6_1 : Int).toNat ((wrap64 (x6_1 + t153)) : Int).toNat, x6_1⟩ : S71)]) := ⟨_, rfl⟩
                          replace H : (lex_Lex.l0 k1 a0 y154 (wrap64 (x6_1 + t153))) = some (r1, r2, r3) := by first | (rw [hy154]; with_reducible exact H) | (have H2_ := (Option.bind_some _ _).symm.trans H; rw [hy154]; with_reducible exact H2_) | (have H2_ := (Option.bind_some _ _).symm.trans H; with_reducible exact H2_) | with_reducible exact H | (rw [hy154]; exact H) | exact H
                          have Ny154 := Aside0.mk hy154
                          clear hy154
                          have H' := Aside0.mk H
                          clear H
                          have p5 : 0 ≤ (x6_1 : Int) := of_decide_eq_true (by first | (with_reducible assumption) | assumption)
                          have q5 : x6_1 < (a0.size : Int) := of_decide_eq_true (by first | (with_reducible assumption) | assumption)
                          have hx5 := bt_at a0 x6_1
                          replace p5 := eq_true p5
                          replace q5 := eq_true q5
                          have p7 : 0 ≤ (0 : Int) := (by omega)
                          have q7 : 0 < (1 : Int) := (by omega)
                          have hx7 := bt_at (⟨#[32]⟩ : ByteArray) 0
                          have hx7L : ∀ (h : 0 < (⟨#[32]⟩ : ByteArray).size), ((((⟨#[32]⟩ : ByteArray)[0]'h).toNat : Nat) : Int) = bt (⟨#[32]⟩ : ByteArray) 0 := fun h => hx7 h
                          replace p7 := eq_true p7
                          replace q7 := eq_true q7
                          go_wp2_with (first | (go_at_call 65; (with_reducible refine (lex_first.calls k1 (a0.extract (x6_1 : Int).toNat a0.size) t152 t153 _ A11.out).mono ?_); rintro e w18 ⟨rfl, hb⟩; have n0_ := Aside0.mk (Kd.R_below (by (with_reducible repeat (first | apply Kd.R_alloc | apply Kd.R_drewN | apply Kd.R_drew)); exact HO_5.out) hb); have n1_ := Aside0.mk (below_step (by repeat (first | (with_reducible first | exact HB.out | apply below_alloc | apply pw_below_drewN | apply below_drew1) | exact HB.out)) hb); clear HO_5; clear HB; have HO_5 := n0_; have HB := n1_; clear n0_ n1_; (try clear hb); (try clear hb2); (try clear hk); (try clear hi)) | ((with_reducible refine gate_builtin (b := .append) (xs := #[.tmp 33, .tmp 43]) rfl ?_); at_builtin; refine Kd.R_append k71 (w0 := w) w.heap.size rfl (.tmp 33) (.tmp 43) 46 71 (.agg #[(.int .i64 0), (.string ⟨#[]⟩), (.int .i64 0)]) 32 rfl Try.underlying46 info71 rfl (by decide) (by omega) u5 x5_1 (⟨t152, a0.extract (x6_1 : Int).toNat ((wrap64 (x6_1 + t153)) : Int).toNat, x6_1⟩ : S71) [.int .i64 t152, .string (a0.extract (x6_1 : Int).toNat ((wrap64 (x6_1 + t153)) : Int).toNat), .int .i64 x6_1] (fun _ => True) (fun _ => False) rfl rfl ?aP (fun _ hk => hk.elim) ?aF ?aO ?aB ?aS ?aL ?_; (case aP => exact k71_mkM _ _ _ (⟨t152, a0.extract (x6_1 : Int).toNat ((wrap64 (x6_1 + t153)) : Int).toNat, x6_1⟩ : S71)); (case aB => exact (by repeat (first | (with_reducible first | exact HB.out | apply below_alloc | apply pw_below_drewN | apply below_drew1) | exact HB.out))); (case aF => exact (fun _ _ => trivial)); (case aO => exact (by (with_reducible repeat (first | apply Kd.R_alloc | apply Kd.R_drewN | apply Kd.R_drew)); exact HO_5.out)); (case aS => exact (below_size (by repeat (first | (with_reducible first | exact HB.out | apply below_alloc | apply pw_below_drewN | apply below_drew1) | exact HB.out)))); (case aL => have := LMc17.out; omega); intro v155 w19 ho hb hg hat; rw [← Ny154.out] at ho; have n0_ := Aside0.mk (hb); have n1_ := Aside0.mk (ho); clear HB; clear HO_5; have HB := n0_; have HO156 := n1_; clear n0_ n1_; clear ho hb hg hat))
                          repeat (go_quiet (first | (go_at_call 65; (with_reducible refine (lex_first.calls k1 (a0.extract (x6_1 : Int).toNat a0.size) t152 t153 _ A11.out).mono ?_); rintro e w18 ⟨rfl, hb⟩; have n0_ := Aside0.mk (Kd.R_below (by (with_reducible repeat (first | apply Kd.R_alloc | apply Kd.R_drewN | apply Kd.R_drew)); exact HO_5.out) hb); have n1_ := Aside0.mk (below_step (by repeat (first | (with_reducible first | exact HB.out | apply below_alloc | apply pw_below_drewN | apply below_drew1) | exact HB.out)) hb); clear HO_5; clear HB; have HO_5 := n0_; have HB := n1_; clear n0_ n1_; (try clear hb); (try clear hb2); (try clear hk); (try clear hi)) | ((with_reducible refine gate_builtin (b := .append) (xs := #[.tmp 33, .tmp 43]) rfl ?_); at_builtin; refine Kd.R_append k71 (w0 := w) w.heap.size rfl (.tmp 33) (.tmp 43) 46 71 (.agg #[(.int .i64 0), (.string ⟨#[]⟩), (.int .i64 0)]) 32 rfl Try.underlying46 info71 rfl (by decide) (by omega) u5 x5_1 (⟨t152, a0.extract (x6_1 : Int).toNat ((wrap64 (x6_1 + t153)) : Int).toNat, x6_1⟩ : S71) [.int .i64 t152, .string (a0.extract (x6_1 : Int).toNat ((wrap64 (x6_1 + t153)) : Int).toNat), .int .i64 x6_1] (fun _ => True) (fun _ => False) rfl rfl ?aP (fun _ hk => hk.elim) ?aF ?aO ?aB ?aS ?aL ?_; (case aP => exact k71_mkM _ _ _ (⟨t152, a0.extract (x6_1 : Int).toNat ((wrap64 (x6_1 + t153)) : Int).toNat, x6_1⟩ : S71)); (case aB => exact (by repeat (first | (with_reducible first | exact HB.out | apply below_alloc | apply pw_below_drewN | apply below_drew1) | exact HB.out))); (case aF => exact (fun _ _ => trivial)); (case aO => exact (by (with_reducible repeat (first | apply Kd.R_alloc | apply Kd.R_drewN | apply Kd.R_drew)); exact HO_5.out)); (case aS => exact (below_size (by repeat (first | (with_reducible first | exact HB.out | apply below_alloc | apply pw_below_drewN | apply below_drew1) | exact HB.out)))); (case aL => have := LMc17.out; omega); intro v155 w19 ho hb hg hat; rw [← Ny154.out] at ho; have n0_ := Aside0.mk (hb); have n1_ := Aside0.mk (ho); clear HB; clear HO_5; have HB := n0_; have HO156 := n1_; clear n0_ n1_; clear ho hb hg hat)); try go_wp2_with (first | (go_at_call 65; (with_reducible refine (lex_first.calls k1 (a0.extract (x6_1 : Int).toNat a0.size) t152 t153 _ A11.out).mono ?_); rintro e w18 ⟨rfl, hb⟩; have n0_ := Aside0.mk (Kd.R_below (by (with_reducible repeat (first | apply Kd.R_alloc | apply Kd.R_drewN | apply Kd.R_drew)); exact HO_5.out) hb); have n1_ := Aside0.mk (below_step (by repeat (first | (with_reducible first | exact HB.out | apply below_alloc | apply pw_below_drewN | apply below_drew1) | exact HB.out)) hb); clear HO_5; clear HB; have HO_5 := n0_; have HB := n1_; clear n0_ n1_; (try clear hb); (try clear hb2); (try clear hk); (try clear hi)) | ((with_reducible refine gate_builtin (b := .append) (xs := #[.tmp 33, .tmp 43]) rfl ?_); at_builtin; refine Kd.R_append k71 (w0 := w) w.heap.size rfl (.tmp 33) (.tmp 43) 46 71 (.agg #[(.int .i64 0), (.string ⟨#[]⟩), (.int .i64 0)]) 32 rfl Try.underlying46 info71 rfl (by decide) (by omega) u5 x5_1 (⟨t152, a0.extract (x6_1 : Int).toNat ((wrap64 (x6_1 + t153)) : Int).toNat, x6_1⟩ : S71) [.int .i64 t152, .string (a0.extract (x6_1 : Int).toNat ((wrap64 (x6_1 + t153)) : Int).toNat), .int .i64 x6_1] (fun _ => True) (fun _ => False) rfl rfl ?aP (fun _ hk => hk.elim) ?aF ?aO ?aB ?aS ?aL ?_; (case aP => exact k71_mkM _ _ _ (⟨t152, a0.extract (x6_1 : Int).toNat ((wrap64 (x6_1 + t153)) : Int).toNat, x6_1⟩ : S71)); (case aB => exact (by repeat (first | (with_reducible first | exact HB.out | apply below_alloc | apply pw_below_drewN | apply below_drew1) | exact HB.out))); (case aF => exact (fun _ _ => trivial)); (case aO => exact (by (with_reducible repeat (first | apply Kd.R_alloc | apply Kd.R_drewN | apply Kd.R_drew)); exact HO_5.out)); (case aS => exact (below_size (by repeat (first | (with_reducible first | exact HB.out | apply below_alloc | apply pw_below_drewN | apply below_drew1) | exact HB.out)))); (case aL => have := LMc17.out; omega); intro v155 w19 ho hb hg hat; rw [← Ny154.out] at ho; have n0_ := Aside0.mk (hb); have n1_ := Aside0.mk (ho); clear HB; clear HO_5; have HB := n0_; have HO156 := n1_; clear n0_ n1_; clear ho hb hg hat)))
                          go_roundg k1
                          case measure => have := HK1.out; omega
                          case rel => exact ⟨(y154), (wrap64 (x6_1 + t153)), (by first | rfl | (simp; done) | (simp [*]; done)), H', ⟨by have := HK1.out; omega⟩, ⟨by (with_reducible repeat (first | apply Kd.R_alloc | apply Kd.R_drewN | apply Kd.R_drew)); exact HO156.out⟩, ⟨by repeat (first | (with_reducible first | exact HB.out | apply below_alloc | apply pw_below_drewN | apply below_drew1) | exact HB.out)⟩⟩
                        · rw [if_neg c17] at H
                          exact absurd H (by simp)
                      · rw [if_neg c16] at H
                        exact absurd H (by simp)
                    · rw [if_neg c15] at H
                      exact absurd H (by simp)
                · rw [if_neg c10] at H
                  exact absurd H (by simp)
            · rw [if_neg c6] at H
              exact absurd H (by simp)
          · rw [if_neg c4] at H
            exact absurd H (by simp)
        · rw [if_neg c3] at H
          have c3b0 : decide (x6_1 < (a0.size : Int)) = false := decide_eq_false c3
          clear c3
          simp only [Option.some.injEq, Prod.mk.injEq] at H
          obtain ⟨rfl, rfl, rfl⟩ := H
          go_wp2
          repeat (go_quiet (fail); try go_wp2)
          (try rw [Exit.noGoto_ret])
          go_ret3
          exact ⟨_, by first | rfl | (simp [errW_none, errW_some] <;> rfl) | (simp [*, errW_none, errW_some] <;> rfl), by (with_reducible repeat (first | apply Kd.R_alloc | apply Kd.R_drewN | apply Kd.R_drew)); exact HO_5.out, by repeat (first | (with_reducible first | exact HB.out | apply below_alloc | apply pw_below_drewN | apply below_drew1) | exact HB.out)⟩

end Go.Proofs.Ytdelccahgchadaa.P
