/- What the law TreeTells rests on, part 5. -/
import Derived.Test.YtdelccahgchadaaKTreeTells3
set_option linter.unusedVariables false
set_option linter.unusedSimpArgs false
section
namespace Go.Proofs.Ytdelccahgchadaa.P
open Go.RowKit Go.Proofs.YtdelccahgchadaaW.PrintWords Go.Proofs.YtdelccahgchadaaW.PrintLast Go.Proofs.YtdelccahgchadaaW.PrintMore
attribute [local go_sem] max2_int min2_int max_two min_two max_three min_three max_four min_four   
set_option linter.unusedVariables false
set_option linter.unusedSimpArgs false
def reredosref07_has.l0 : Nat → ByteArray → Int → Int → Option (Bool)
 | 0, _, _, _ => none
 | k + 1, x0, x1, x5 => if x5 < (x0.size : Int) then (if 0 ≤ x5 then (if (bt x0 x5) = x1 then (some true) else (reredosref07_has.l0 k x0 x1 (wrap64 (x5 + 1)))) else (none)) else (some false)
def reredosref07_has.f (k : Nat) (a0 : ByteArray) (a1 : Int) : Option (Bool) := reredosref07_has.l0 k a0 a1 0
theorem reredosref07_has.mono_l : ∀ k, (∀ y0 y1 y2, LeO (reredosref07_has.l0 k y0 y1 y2) (reredosref07_has.l0 (k + 1) y0 y1 y2))
 | 0 => fun _ _ _ r h => by simp [reredosref07_has.l0] at h
 | k + 1 => by
  have ih0 := reredosref07_has.mono_l k
  ·intro y0 y1 y2
   unfold reredosref07_has.l0
   repeat' first
   | (with_reducible exact ih0 _ _ _)
   | (with_reducible exact LeO.refl _)
   | (with_reducible exact LeO.none _)
   | (with_reducible refine LeO.ite ?_ ?_)
   | (with_reducible refine LeO.bind ?_ (fun _ => ?_))
   | exact ih0 _ _ _
   | exact LeO.none _
   | refine LeO.ite ?_ ?_
   | refine LeO.bind ?_ (fun _ => ?_)
theorem reredosref07_has.mono : ∀ a0 a1 k, LeO (reredosref07_has.f k a0 a1) (reredosref07_has.f (k + 1) a0 a1) := by
 intro a0 a1 k
 have ih0 := reredosref07_has.mono_l k
 unfold reredosref07_has.f
 repeat' first
   | (with_reducible exact ih0 _ _ _)
   | (with_reducible exact LeO.refl _)
   | (with_reducible exact LeO.none _)
   | (with_reducible refine LeO.ite ?_ ?_)
   | (with_reducible refine LeO.bind ?_ (fun _ => ?_))
   | exact ih0 _ _ _
   | exact LeO.none _
   | refine LeO.ite ?_ ?_
   | refine LeO.bind ?_ (fun _ => ?_)
set_option maxHeartbeats 8000000 in
set_option maxRecDepth 100000 in
theorem reredosref07_has.calls (k : Nat) (a0 : ByteArray) (a1 : Int) (r : Bool) (w : World) (h : reredosref07_has.f k a0 a1 = some r) :
  Calls Try.prog 69 #[.string a0, .int .u8 a1] w fun e w' => e = .returned (.bool r) ∧ Drawn0 w w' := by
 have H : (reredosref07_has.l0 k a0 a1 0) = some r := h
 clear h
 have H' := am H
 clear H
 go_enter Try.func69, Try.ntmps69
 go_wp2
 go_loopg [5] k (fun kq v5 w' => ∃ (x5_1 : Int), v5 = .int .i64 x5_1 ∧ Aside0 (reredosref07_has.l0 kq a0 a1 x5_1 = some r) ∧ Aside0 (kq ≤ k) ∧ Drawn0 w w')
 case atStart => exact ⟨(0), (by first | rfl | (simp; done) | (simp [*]; done)), H', ⟨Nat.le_refl _⟩, by repeat (first | exact Drawn0.refl _ | apply Drawn0.step)⟩
 case round =>
  clear H'
  try clear p2
  obtain ⟨x5_1, rfl, HA, HK1, ⟨m1, rfl⟩⟩ := hrel
  cases gk with
  | zero => exact absurd HA.out (by simp [reredosref07_has.l0])
  | succ k1 =>
   have H := HA.out
   clear HA
   simp only [reredosref07_has.l0] at H
   by_cases c3 : x5_1 < (a0.size : Int)
   ·rw [if_pos c3] at H
    have c3b0 : decide (x5_1 < (a0.size : Int)) = true := decide_eq_true c3
    clear c3
    by_cases c4 : 0 ≤ x5_1
    ·rw [if_pos c4] at H
     have c4b0 : decide (0 ≤ x5_1) = true := decide_eq_true c4
     clear c4
     by_cases c6 : (bt a0 x5_1) = a1
     ·rw [if_pos c6] at H
      have c6b0 : ((bt a0 x5_1) == a1) = true := beq_iff_eq.mpr c6
      have c6b1 : ((bt a0 x5_1) != a1) = false := bne_eq_false_iff_eq.mpr c6
      clear c6
      obtain rfl := Option.some.inj H
      have p5 : 0 ≤ (x5_1 : Int) := of_decide_eq_true (by first | (with_reducible assumption) | assumption)
      have q5 : x5_1 < (a0.size : Int) := of_decide_eq_true (by first | (with_reducible assumption) | assumption)
      have hx5 := bt_at a0 x5_1
      replace p5 := eq_true p5
      replace q5 := eq_true q5
      go_wp2
      go_ret
      exact ⟨by first | rfl | (simp; done) | (simp [*]; done), by repeat (first | exact Drawn0.refl _ | apply Drawn0.step)⟩
     ·rw [if_neg c6] at H
      have c6b0 : ((bt a0 x5_1) == a1) = false := beq_eq_false_iff_ne.mpr c6
      have c6b1 : ((bt a0 x5_1) != a1) = true := bne_iff_ne.mpr c6
      have H' := am H
      clear H
      have p5 : 0 ≤ (x5_1 : Int) := of_decide_eq_true (by first | (with_reducible assumption) | assumption)
      have q5 : x5_1 < (a0.size : Int) := of_decide_eq_true (by first | (with_reducible assumption) | assumption)
      have hx5 := bt_at a0 x5_1
      replace p5 := eq_true p5
      replace q5 := eq_true q5
      go_wp2
      go_roundg k1
      case measure => have := HK1.out; omega
      case rel => exact ⟨(wrap64 (x5_1 + 1)), (by first | rfl | (simp; done) | (simp [*]; done)), H', ⟨by have := HK1.out; omega⟩, by repeat (first | exact Drawn0.refl _ | apply Drawn0.step)⟩
    ·rw [if_neg c4] at H
     exact absurd H (by simp)
   ·rw [if_neg c3] at H
    have c3b0 : decide (x5_1 < (a0.size : Int)) = false := decide_eq_false c3
    clear c3
    obtain rfl := Option.some.inj H
    go_wp2
    go_ret
    exact ⟨by first | rfl | (simp; done) | (simp [*]; done), by repeat (first | exact Drawn0.refl _ | apply Drawn0.step)⟩
def reredosref07_all.l0 : Nat → ByteArray → ByteArray → Int → Option (Bool)
 | 0, _, _, _ => none
 | k + 1, x0, x2, x7 => if x7 < (x0.size : Int) then (if 0 ≤ x7 then ((reredosref07_has.f k x2 (bt x0 x7)).bind fun t274 => (if t274 = true then (reredosref07_all.l0 k x0 x2 (wrap64 (x7 + 1))) else (some false))) else (none)) else (some true)
def reredosref07_all.f (k : Nat) (a0 : ByteArray) (a1 : Int) (a2 : ByteArray) : Option (Bool) := reredosref07_all.l0 k a0 a2 a1
theorem reredosref07_all.mono_l : ∀ k, (∀ y0 y1 y2, LeO (reredosref07_all.l0 k y0 y1 y2) (reredosref07_all.l0 (k + 1) y0 y1 y2))
 | 0 => fun _ _ _ r h => by simp [reredosref07_all.l0] at h
 | k + 1 => by
  have ih0 := reredosref07_all.mono_l k
  ·intro y0 y1 y2
   unfold reredosref07_all.l0
   repeat' first
   | (with_reducible exact ih0 _ _ _)
   | (with_reducible exact reredosref07_has.mono _ _ _)
   | (with_reducible exact LeO.refl _)
   | (with_reducible exact LeO.none _)
   | (with_reducible refine LeO.ite ?_ ?_)
   | (with_reducible refine LeO.bind ?_ (fun _ => ?_))
   | exact ih0 _ _ _
   | exact reredosref07_has.mono _ _ _
   | exact LeO.none _
   | refine LeO.ite ?_ ?_
   | refine LeO.bind ?_ (fun _ => ?_)
theorem reredosref07_all.mono : ∀ a0 a1 a2 k, LeO (reredosref07_all.f k a0 a1 a2) (reredosref07_all.f (k + 1) a0 a1 a2) := by
 intro a0 a1 a2 k
 have ih0 := reredosref07_all.mono_l k
 unfold reredosref07_all.f
 repeat' first
   | (with_reducible exact ih0 _ _ _)
   | (with_reducible exact reredosref07_has.mono _ _ _)
   | (with_reducible exact LeO.refl _)
   | (with_reducible exact LeO.none _)
   | (with_reducible refine LeO.ite ?_ ?_)
   | (with_reducible refine LeO.bind ?_ (fun _ => ?_))
   | exact ih0 _ _ _
   | exact reredosref07_has.mono _ _ _
   | exact LeO.none _
   | refine LeO.ite ?_ ?_
   | refine LeO.bind ?_ (fun _ => ?_)
set_option maxHeartbeats 8000000 in
set_option maxRecDepth 100000 in
theorem reredosref07_all.calls (k : Nat) (a0 : ByteArray) (a1 : Int) (a2 : ByteArray) (r : Bool) (w : World) (h : reredosref07_all.f k a0 a1 a2 = some r) :
  Calls Try.prog 70 #[.string a0, .int .i64 a1, .string a2] w fun e w' => e = .returned (.bool r) ∧ Drawn0 w w' := by
 have H : (reredosref07_all.l0 k a0 a2 a1) = some r := h
 clear h
 have H' := am H
 clear H
 go_enter Try.func70, Try.ntmps70
 go_wp2
 go_loopg [7] k (fun kq v7 w' => ∃ (x7_1 : Int), v7 = .int .i64 x7_1 ∧ Aside0 (reredosref07_all.l0 kq a0 a2 x7_1 = some r) ∧ Aside0 (kq ≤ k) ∧ Drawn0 w w')
 case atStart => exact ⟨(a1), (by first | rfl | (simp; done) | (simp [*]; done)), H', ⟨Nat.le_refl _⟩, by repeat (first | exact Drawn0.refl _ | apply Drawn0.step)⟩
 case round =>
  clear H'
  try clear p2
  obtain ⟨x7_1, rfl, HA, HK1, ⟨m1, rfl⟩⟩ := hrel
  cases gk with
  | zero => exact absurd HA.out (by simp [reredosref07_all.l0])
  | succ k1 =>
   have H := HA.out
   clear HA
   simp only [reredosref07_all.l0] at H
   by_cases c4 : x7_1 < (a0.size : Int)
   ·rw [if_pos c4] at H
    have c4b0 : decide (x7_1 < (a0.size : Int)) = true := decide_eq_true c4
    clear c4
    by_cases c5 : 0 ≤ x7_1
    ·rw [if_pos c5] at H
     have c5b0 : decide (0 ≤ x7_1) = true := decide_eq_true c5
     clear c5
     replace H := Option.bind_eq_some_iff.mp H
     obtain ⟨t274, A70, H⟩ := H
     replace H : (if t274 = true then (reredosref07_all.l0 k1 a0 a2 (wrap64 (x7_1 + 1))) else (some false)) = some r := H
     have A7 := am A70
     clear A70
     by_cases c8 : t274 = true
     ·subst c8
      have H1 : (reredosref07_all.l0 k1 a0 a2 (wrap64 (x7_1 + 1))) = some r := by rw [if_pos rfl] at H; exact H
      clear H
      have H := H1
      clear H1
      have H' := am H
      clear H
      have p6 : 0 ≤ (x7_1 : Int) := of_decide_eq_true (by first | (with_reducible assumption) | assumption)
      have q6 : x7_1 < (a0.size : Int) := of_decide_eq_true (by first | (with_reducible assumption) | assumption)
      have hx6 := bt_at a0 x7_1
      replace p6 := eq_true p6
      replace q6 := eq_true q6
      go_wp2_with (first | ((with_reducible refine gate_callee (f := 69) rfl ?_); refine goesL_ (some 19) rfl rfl Try.func69 (by kernel_rfl) rfl #[.string a2, .int .u8 (bt a0 x7_1)] rfl (by (try simp only [List.map_toArray, List.map_cons, List.map_nil]); first | done | rfl | (simp only [List.length_drop, List.length_take]; rfl)) ?_; (with_reducible refine (reredosref07_has.calls k1 a2 (bt a0 x7_1) true _ A7.out).mono ?_); rintro e w' ⟨rfl, ⟨nd, rfl⟩⟩; refine ⟨_, rfl, ?_⟩))
      go_roundg k1
      case measure => have := HK1.out; omega
      case rel => exact ⟨(wrap64 (x7_1 + 1)), (by first | rfl | (simp; done) | (simp [*]; done)), H', ⟨by have := HK1.out; omega⟩, by repeat (first | exact Drawn0.refl _ | apply Drawn0.step)⟩
     ·replace c8 := Bool.eq_false_iff.mpr c8
      subst c8
      have H1 : (some false) = some r := by rw [if_neg (show ¬ (false = true) by decide)] at H; exact H
      clear H
      have H := H1
      clear H1
      obtain rfl := Option.some.inj H
      have p6 : 0 ≤ (x7_1 : Int) := of_decide_eq_true (by first | (with_reducible assumption) | assumption)
      have q6 : x7_1 < (a0.size : Int) := of_decide_eq_true (by first | (with_reducible assumption) | assumption)
      have hx6 := bt_at a0 x7_1
      replace p6 := eq_true p6
      replace q6 := eq_true q6
      go_wp2_with (first | ((with_reducible refine gate_callee (f := 69) rfl ?_); refine goesL_ (some 19) rfl rfl Try.func69 (by kernel_rfl) rfl #[.string a2, .int .u8 (bt a0 x7_1)] rfl (by (try simp only [List.map_toArray, List.map_cons, List.map_nil]); first | done | rfl | (simp only [List.length_drop, List.length_take]; rfl)) ?_; (with_reducible refine (reredosref07_has.calls k1 a2 (bt a0 x7_1) false _ A7.out).mono ?_); rintro e w' ⟨rfl, ⟨nd, rfl⟩⟩; refine ⟨_, rfl, ?_⟩))
      go_ret
      exact ⟨by first | rfl | (simp; done) | (simp [*]; done), by repeat (first | exact Drawn0.refl _ | apply Drawn0.step)⟩
    ·rw [if_neg c5] at H
     exact absurd H (by simp)
   ·rw [if_neg c4] at H
    have c4b0 : decide (x7_1 < (a0.size : Int)) = false := decide_eq_false c4
    clear c4
    obtain rfl := Option.some.inj H
    go_wp2
    go_ret
    exact ⟨by first | rfl | (simp; done) | (simp [*]; done), by repeat (first | exact Drawn0.refl _ | apply Drawn0.step)⟩
end Go.Proofs.Ytdelccahgchadaa.P
end
section
namespace Go.Proofs.Ytdelccahgchadaa.P
open Go.RowKit Go.Proofs.YtdelccahgchadaaW.PrintWords Go.Proofs.YtdelccahgchadaaW.PrintLast Go.Proofs.YtdelccahgchadaaW.PrintMore
attribute [local go_sem] max2_int min2_int max_two min_two max_three min_three max_four min_four   
set_option linter.unusedVariables false
set_option linter.unusedSimpArgs false
mutual
def reredosref07_kind.j0 : Nat → ByteArray → Bool → Option (Int)
 | 0, _, _ => none
 | k + 1, x0, x11 => if x11 = true then (some 2) else (if 0 < (x0.size : Int) then ((reredosref07_has.f k (⟨#[65, 66, 67, 68, 69, 70, 71, 72, 73, 74, 75, 76, 77, 78, 79, 80, 81, 82, 83, 84, 85, 86, 87, 88, 89, 90]⟩ : ByteArray) (bt x0 0)).bind fun t277 => (if t277 = true then ((reredosref07_all.f k x0 1 (⟨#[65, 66, 67, 68, 69, 70, 71, 72, 73, 74, 75, 76, 77, 78, 79, 80, 81, 82, 83, 84, 85, 86, 87, 88, 89, 90, 97, 98, 99, 100, 101, 102, 103, 104, 105, 106, 107, 108, 109, 110, 111, 112, 113, 114, 115, 116, 117, 118, 119, 120, 121, 122, 48, 49, 50, 51, 52, 53, 54, 55, 56, 57]⟩ : ByteArray)).bind fun t278 => (reredosref07_kind.j1 k x0 t278)) else (reredosref07_kind.j1 k x0 false))) else (none))
def reredosref07_kind.j1 : Nat → ByteArray → Bool → Option (Int)
 | 0, _, _ => none
 | k + 1, x0, x18 => if x18 = true then (some 3) else (if (x0.size : Int) = 1 then (if 0 < (x0.size : Int) then ((reredosref07_has.f k (⟨#[43, 45, 42, 37, 33, 38, 124, 60, 62, 61, 126, 44, 35, 94, 36, 63, 64]⟩ : ByteArray) (bt x0 0)).bind fun t279 => (reredosref07_kind.j2 k x0 t279)) else (none)) else (reredosref07_kind.j2 k x0 false))
def reredosref07_kind.j2 : Nat → ByteArray → Bool → Option (Int)
 | 0, _, _ => none
 | k + 1, x0, x26 => if x26 = true then (some 4) else (if (x0.size : Int) = 1 then (if 0 < (x0.size : Int) then ((reredosref07_has.f k (⟨#[39, 47, 92, 46, 96]⟩ : ByteArray) (bt x0 0)).bind fun t280 => (reredosref07_kind.j3 k x0 t280)) else (none)) else (reredosref07_kind.j3 k x0 false))
def reredosref07_kind.j3 : Nat → ByteArray → Bool → Option (Int)
 | 0, _, _ => none
 | k + 1, x0, x34 => if x34 = true then (some 5) else (if (x0.size : Int) = 1 then (if 0 < (x0.size : Int) then ((reredosref07_has.f k (⟨#[40, 41, 91, 93, 123, 125, 58]⟩ : ByteArray) (bt x0 0)).bind fun t281 => (reredosref07_kind.j4 k x0 t281)) else (none)) else (reredosref07_kind.j4 k x0 false))
def reredosref07_kind.j4 : Nat → ByteArray → Bool → Option (Int)
 | 0, _, _ => none
 | k + 1, x0, x42 => if x42 = true then (some 6) else (if 0 < (x0.size : Int) then (if (bt x0 0) = 95 then ((reredosref07_all.f k x0 1 (⟨#[48, 49, 50, 51, 52, 53, 54, 55, 56, 57]⟩ : ByteArray)).bind fun t282 => (if t282 = true then (some 1) else (some 0))) else ((reredosref07_has.f k (⟨#[48, 49, 50, 51, 52, 53, 54, 55, 56, 57]⟩ : ByteArray) (bt x0 0)).bind fun t283 => (if t283 = true then ((reredosref07_all.f k x0 1 (⟨#[48, 49, 50, 51, 52, 53, 54, 55, 56, 57]⟩ : ByteArray)).bind fun t284 => (if t284 = true then (some 1) else (some 0))) else (some 0)))) else (none))
end
def reredosref07_kind.f (k : Nat) (a0 : ByteArray) : Option (Int) := if a0.toList = ([] : List UInt8) then (some 0) else (if 0 < (a0.size : Int) then ((reredosref07_has.f k (⟨#[97, 98, 99, 100, 101, 102, 103, 104, 105, 106, 107, 108, 109, 110, 111, 112, 113, 114, 115, 116, 117, 118, 119, 120, 121, 122]⟩ : ByteArray) (bt a0 0)).bind fun t275 => (if t275 = true then ((reredosref07_all.f k a0 1 (⟨#[97, 98, 99, 100, 101, 102, 103, 104, 105, 106, 107, 108, 109, 110, 111, 112, 113, 114, 115, 116, 117, 118, 119, 120, 121, 122, 48, 49, 50, 51, 52, 53, 54, 55, 56, 57]⟩ : ByteArray)).bind fun t276 => (reredosref07_kind.j0 k a0 t276)) else (reredosref07_kind.j0 k a0 false))) else (none))
theorem reredosref07_kind.mono_l : ∀ k, (∀ y0 y1, LeO (reredosref07_kind.j0 k y0 y1) (reredosref07_kind.j0 (k + 1) y0 y1)) ∧ (∀ y0 y1, LeO (reredosref07_kind.j1 k y0 y1) (reredosref07_kind.j1 (k + 1) y0 y1)) ∧ (∀ y0 y1, LeO (reredosref07_kind.j2 k y0 y1) (reredosref07_kind.j2 (k + 1) y0 y1)) ∧ (∀ y0 y1, LeO (reredosref07_kind.j3 k y0 y1) (reredosref07_kind.j3 (k + 1) y0 y1)) ∧ (∀ y0 y1, LeO (reredosref07_kind.j4 k y0 y1) (reredosref07_kind.j4 (k + 1) y0 y1))
 | 0 => ⟨fun _ _ r h => by simp [reredosref07_kind.j0] at h, fun _ _ r h => by simp [reredosref07_kind.j1] at h, fun _ _ r h => by simp [reredosref07_kind.j2] at h, fun _ _ r h => by simp [reredosref07_kind.j3] at h, fun _ _ r h => by simp [reredosref07_kind.j4] at h⟩
 | k + 1 => by
  obtain ⟨ih0, ih1, ih2, ih3, ih4⟩ := reredosref07_kind.mono_l k
  refine ⟨?_, ?_, ?_, ?_, ?_⟩
  ·intro y0 y1
   unfold reredosref07_kind.j0
   repeat' first
   | (with_reducible exact ih0 _ _)
   | (with_reducible exact ih1 _ _)
   | (with_reducible exact ih2 _ _)
   | (with_reducible exact ih3 _ _)
   | (with_reducible exact ih4 _ _)
   | (with_reducible exact reredosref07_all.mono _ _ _ _)
   | (with_reducible exact reredosref07_has.mono _ _ _)
   | (with_reducible exact LeO.refl _)
   | (with_reducible exact LeO.none _)
   | (with_reducible refine LeO.ite ?_ ?_)
   | (with_reducible refine LeO.bind ?_ (fun _ => ?_))
   | exact ih0 _ _
   | exact ih1 _ _
   | exact ih2 _ _
   | exact ih3 _ _
   | exact ih4 _ _
   | exact reredosref07_all.mono _ _ _ _
   | exact reredosref07_has.mono _ _ _
   | exact LeO.none _
   | refine LeO.ite ?_ ?_
   | refine LeO.bind ?_ (fun _ => ?_)
  ·intro y0 y1
   unfold reredosref07_kind.j1
   repeat' first
   | (with_reducible exact ih0 _ _)
   | (with_reducible exact ih1 _ _)
   | (with_reducible exact ih2 _ _)
   | (with_reducible exact ih3 _ _)
   | (with_reducible exact ih4 _ _)
   | (with_reducible exact reredosref07_all.mono _ _ _ _)
   | (with_reducible exact reredosref07_has.mono _ _ _)
   | (with_reducible exact LeO.refl _)
   | (with_reducible exact LeO.none _)
   | (with_reducible refine LeO.ite ?_ ?_)
   | (with_reducible refine LeO.bind ?_ (fun _ => ?_))
   | exact ih0 _ _
   | exact ih1 _ _
   | exact ih2 _ _
   | exact ih3 _ _
   | exact ih4 _ _
   | exact reredosref07_all.mono _ _ _ _
   | exact reredosref07_has.mono _ _ _
   | exact LeO.none _
   | refine LeO.ite ?_ ?_
   | refine LeO.bind ?_ (fun _ => ?_)
  ·intro y0 y1
   unfold reredosref07_kind.j2
   repeat' first
   | (with_reducible exact ih0 _ _)
   | (with_reducible exact ih1 _ _)
   | (with_reducible exact ih2 _ _)
   | (with_reducible exact ih3 _ _)
   | (with_reducible exact ih4 _ _)
   | (with_reducible exact reredosref07_all.mono _ _ _ _)
   | (with_reducible exact reredosref07_has.mono _ _ _)
   | (with_reducible exact LeO.refl _)
   | (with_reducible exact LeO.none _)
   | (with_reducible refine LeO.ite ?_ ?_)
   | (with_reducible refine LeO.bind ?_ (fun _ => ?_))
   | exact ih0 _ _
   | exact ih1 _ _
   | exact ih2 _ _
   | exact ih3 _ _
   | exact ih4 _ _
   | exact reredosref07_all.mono _ _ _ _
   | exact reredosref07_has.mono _ _ _
   | exact LeO.none _
   | refine LeO.ite ?_ ?_
   | refine LeO.bind ?_ (fun _ => ?_)
  ·intro y0 y1
   unfold reredosref07_kind.j3
   repeat' first
   | (with_reducible exact ih0 _ _)
   | (with_reducible exact ih1 _ _)
   | (with_reducible exact ih2 _ _)
   | (with_reducible exact ih3 _ _)
   | (with_reducible exact ih4 _ _)
   | (with_reducible exact reredosref07_all.mono _ _ _ _)
   | (with_reducible exact reredosref07_has.mono _ _ _)
   | (with_reducible exact LeO.refl _)
   | (with_reducible exact LeO.none _)
   | (with_reducible refine LeO.ite ?_ ?_)
   | (with_reducible refine LeO.bind ?_ (fun _ => ?_))
   | exact ih0 _ _
   | exact ih1 _ _
   | exact ih2 _ _
   | exact ih3 _ _
   | exact ih4 _ _
   | exact reredosref07_all.mono _ _ _ _
   | exact reredosref07_has.mono _ _ _
   | exact LeO.none _
   | refine LeO.ite ?_ ?_
   | refine LeO.bind ?_ (fun _ => ?_)
  ·intro y0 y1
   unfold reredosref07_kind.j4
   repeat' first
   | (with_reducible exact ih0 _ _)
   | (with_reducible exact ih1 _ _)
   | (with_reducible exact ih2 _ _)
   | (with_reducible exact ih3 _ _)
   | (with_reducible exact ih4 _ _)
   | (with_reducible exact reredosref07_all.mono _ _ _ _)
   | (with_reducible exact reredosref07_has.mono _ _ _)
   | (with_reducible exact LeO.refl _)
   | (with_reducible exact LeO.none _)
   | (with_reducible refine LeO.ite ?_ ?_)
   | (with_reducible refine LeO.bind ?_ (fun _ => ?_))
   | exact ih0 _ _
   | exact ih1 _ _
   | exact ih2 _ _
   | exact ih3 _ _
   | exact ih4 _ _
   | exact reredosref07_all.mono _ _ _ _
   | exact reredosref07_has.mono _ _ _
   | exact LeO.none _
   | refine LeO.ite ?_ ?_
   | refine LeO.bind ?_ (fun _ => ?_)
theorem reredosref07_kind.mono : ∀ a0 k, LeO (reredosref07_kind.f k a0) (reredosref07_kind.f (k + 1) a0) := by
 intro a0 k
 obtain ⟨ih0, ih1, ih2, ih3, ih4⟩ := reredosref07_kind.mono_l k
 unfold reredosref07_kind.f
 repeat' first
   | (with_reducible exact ih0 _ _)
   | (with_reducible exact ih1 _ _)
   | (with_reducible exact ih2 _ _)
   | (with_reducible exact ih3 _ _)
   | (with_reducible exact ih4 _ _)
   | (with_reducible exact reredosref07_all.mono _ _ _ _)
   | (with_reducible exact reredosref07_has.mono _ _ _)
   | (with_reducible exact LeO.refl _)
   | (with_reducible exact LeO.none _)
   | (with_reducible refine LeO.ite ?_ ?_)
   | (with_reducible refine LeO.bind ?_ (fun _ => ?_))
   | exact ih0 _ _
   | exact ih1 _ _
   | exact ih2 _ _
   | exact ih3 _ _
   | exact ih4 _ _
   | exact reredosref07_all.mono _ _ _ _
   | exact reredosref07_has.mono _ _ _
   | exact LeO.none _
   | refine LeO.ite ?_ ?_
   | refine LeO.bind ?_ (fun _ => ?_)
set_option maxHeartbeats 8000000 in
set_option maxRecDepth 100000 in
theorem reredosref07_kind.calls (k : Nat) (a0 : ByteArray) (r : Int) (w : World) (h : reredosref07_kind.f k a0 = some r) :
  Calls Try.prog 52 #[.string a0] w fun e w' => e = .returned (.int .i64 r) ∧ Drawn0 w w' := by
 have H : (if a0.toList = ([] : List UInt8) then (some 0) else (if 0 < (a0.size : Int) then ((reredosref07_has.f k (⟨#[97, 98, 99, 100, 101, 102, 103, 104, 105, 106, 107, 108, 109, 110, 111, 112, 113, 114, 115, 116, 117, 118, 119, 120, 121, 122]⟩ : ByteArray) (bt a0 0)).bind fun t275 => (if t275 = true then ((reredosref07_all.f k a0 1 (⟨#[97, 98, 99, 100, 101, 102, 103, 104, 105, 106, 107, 108, 109, 110, 111, 112, 113, 114, 115, 116, 117, 118, 119, 120, 121, 122, 48, 49, 50, 51, 52, 53, 54, 55, 56, 57]⟩ : ByteArray)).bind fun t276 => (reredosref07_kind.j0 k a0 t276)) else (reredosref07_kind.j0 k a0 false))) else (none))) = some r := h
 clear h
 by_cases c2 : a0.toList = ([] : List UInt8)
 ·rw [if_pos c2] at H
  have c2b0 : (a0.toList == ([] : List UInt8)) = true := beq_iff_eq.mpr c2
  have c2b1 : (a0.toList != ([] : List UInt8)) = false := bne_eq_false_iff_eq.mpr c2
  clear c2
  obtain rfl := Option.some.inj H
  go_enter Try.func52, Try.ntmps52
  go_wp2
  go_ret
  exact ⟨by first | rfl | (simp; done) | (simp [*]; done), by repeat (first | exact Drawn0.refl _ | apply Drawn0.step)⟩
 ·rw [if_neg c2] at H
  have c2b0 : (a0.toList == ([] : List UInt8)) = false := beq_eq_false_iff_ne.mpr c2
  have c2b1 : (a0.toList != ([] : List UInt8)) = true := bne_iff_ne.mpr c2
  have HC3 := am H
  clear H
  go_enter Try.func52, Try.ntmps52
  go_upto_region 3 with (fail)
  go_cut [11] (fun v11 wc => ∃ (kq : Nat) (x11_2 : Bool), v11 = .bool x11_2 ∧ Aside0 (reredosref07_kind.j0 kq a0 x11_2 = some r) ∧ Aside0 (kq ≤ k) ∧ Drawn0 w wc)
  case first =>
   have H := HC3.out
   clear HC3
   by_cases c4 : 0 < (a0.size : Int)
   ·rw [if_pos c4] at H
    have c4b0 : decide (0 < (a0.size : Int)) = true := decide_eq_true c4
    have c4b1 : decide (0 < a0.size) = true := decide_eq_true (by omega)
    clear c4
    (first | rw [c4b0] | (simp only [i64_w, i32_w]; rw [c4b0]) | skip)
    replace H := Option.bind_eq_some_iff.mp H
    obtain ⟨t275, A60, H⟩ := H
    replace H : (if t275 = true then ((reredosref07_all.f k a0 1 (⟨#[97, 98, 99, 100, 101, 102, 103, 104, 105, 106, 107, 108, 109, 110, 111, 112, 113, 114, 115, 116, 117, 118, 119, 120, 121, 122, 48, 49, 50, 51, 52, 53, 54, 55, 56, 57]⟩ : ByteArray)).bind fun t276 => (reredosref07_kind.j0 k a0 t276)) else (reredosref07_kind.j0 k a0 false)) = some r := H
    have A6 := am A60
    clear A60
    by_cases c7 : t275 = true
    ·subst c7
     have H1 : ((reredosref07_all.f k a0 1 (⟨#[97, 98, 99, 100, 101, 102, 103, 104, 105, 106, 107, 108, 109, 110, 111, 112, 113, 114, 115, 116, 117, 118, 119, 120, 121, 122, 48, 49, 50, 51, 52, 53, 54, 55, 56, 57]⟩ : ByteArray)).bind fun t276 => (reredosref07_kind.j0 k a0 t276)) = some r := by rw [if_pos rfl] at H; exact H
     clear H
     have H := H1
     clear H1
     replace H := Option.bind_eq_some_iff.mp H
     obtain ⟨t276, A80, H⟩ := H
     replace H : (reredosref07_kind.j0 k a0 t276) = some r := H
     have A8 := am A80
     clear A80
     have H' := am H
     clear H
     have p5 : 0 ≤ (0 : Int) := (by omega)
     have q5 : 0 < a0.size := (by have : (0 : Int) < (a0.size : Int) := of_decide_eq_true (by first | (with_reducible assumption) | assumption); omega)
     have hx5 : ∀ h : 0 < a0.size, ((a0[0]'h).toNat : Int) = bt a0 0 := bt_at a0 0
     clear p5
     have qi5 : (0 < (a0.size : Int)) = True := eq_true (of_decide_eq_true (by first | (with_reducible assumption) | assumption))
     replace q5 := eq_true q5
     go_wp2_with (first | ((with_reducible refine gate_callee (f := 69) rfl ?_); refine goesL_ (some 7) rfl rfl Try.func69 (by kernel_rfl) rfl #[.string (⟨#[97, 98, 99, 100, 101, 102, 103, 104, 105, 106, 107, 108, 109, 110, 111, 112, 113, 114, 115, 116, 117, 118, 119, 120, 121, 122]⟩ : ByteArray), .int .u8 (bt a0 0)] rfl (by (try simp only [List.map_toArray, List.map_cons, List.map_nil]); first | done | rfl | (simp only [List.length_drop, List.length_take]; rfl)) ?_; (with_reducible refine (reredosref07_has.calls k (⟨#[97, 98, 99, 100, 101, 102, 103, 104, 105, 106, 107, 108, 109, 110, 111, 112, 113, 114, 115, 116, 117, 118, 119, 120, 121, 122]⟩ : ByteArray) (bt a0 0) true _ A6.out).mono ?_); rintro e w' ⟨rfl, ⟨nd, rfl⟩⟩; refine ⟨_, rfl, ?_⟩) | (go_at_call 70; (with_reducible refine (reredosref07_all.calls k a0 1 (⟨#[97, 98, 99, 100, 101, 102, 103, 104, 105, 106, 107, 108, 109, 110, 111, 112, 113, 114, 115, 116, 117, 118, 119, 120, 121, 122, 48, 49, 50, 51, 52, 53, 54, 55, 56, 57]⟩ : ByteArray) t276 _ A8.out).mono ?_); rintro e w' ⟨rfl, ⟨nd, rfl⟩⟩))
     go_meet
     case rel => exact ⟨_, (t276), (by first | rfl | (simp; done) | (simp [*]; done)), H', ⟨by first | omega | exact Nat.le_refl _⟩, by repeat (first | exact Drawn0.refl _ | apply Drawn0.step)⟩
    ·replace c7 := Bool.eq_false_iff.mpr c7
     subst c7
     have H1 : (reredosref07_kind.j0 k a0 false) = some r := by rw [if_neg (show ¬ (false = true) by decide)] at H; exact H
     clear H
     have H := H1
     clear H1
     have H' := am H
     clear H
     have p5 : 0 ≤ (0 : Int) := (by omega)
     have q5 : 0 < a0.size := (by have : (0 : Int) < (a0.size : Int) := of_decide_eq_true (by first | (with_reducible assumption) | assumption); omega)
     have hx5 : ∀ h : 0 < a0.size, ((a0[0]'h).toNat : Int) = bt a0 0 := bt_at a0 0
     clear p5
     have qi5 : (0 < (a0.size : Int)) = True := eq_true (of_decide_eq_true (by first | (with_reducible assumption) | assumption))
     replace q5 := eq_true q5
     go_wp2_with (first | ((with_reducible refine gate_callee (f := 69) rfl ?_); refine goesL_ (some 7) rfl rfl Try.func69 (by kernel_rfl) rfl #[.string (⟨#[97, 98, 99, 100, 101, 102, 103, 104, 105, 106, 107, 108, 109, 110, 111, 112, 113, 114, 115, 116, 117, 118, 119, 120, 121, 122]⟩ : ByteArray), .int .u8 (bt a0 0)] rfl (by (try simp only [List.map_toArray, List.map_cons, List.map_nil]); first | done | rfl | (simp only [List.length_drop, List.length_take]; rfl)) ?_; (with_reducible refine (reredosref07_has.calls k (⟨#[97, 98, 99, 100, 101, 102, 103, 104, 105, 106, 107, 108, 109, 110, 111, 112, 113, 114, 115, 116, 117, 118, 119, 120, 121, 122]⟩ : ByteArray) (bt a0 0) false _ A6.out).mono ?_); rintro e w' ⟨rfl, ⟨nd, rfl⟩⟩; refine ⟨_, rfl, ?_⟩))
     go_meet
     case rel => exact ⟨_, (false), (by first | rfl | (simp; done) | (simp [*]; done)), H', ⟨by first | omega | exact Nat.le_refl _⟩, by repeat (first | exact Drawn0.refl _ | apply Drawn0.step)⟩
   ·rw [if_neg c4] at H
    exact absurd H (by simp)
  case rest =>
   clear HC3
   try clear c2
   try clear c2b0
   try clear c2b1
   try clear p2
   try clear c4
   try clear c4b0
   try clear c4b1
   try clear c5
   try clear p5
   try clear q5
   try clear hx5
   try clear qi5
   try clear c6
   try clear c7
   try clear p5
   try clear q5
   obtain ⟨kq, x11_2, rfl, HA, HJ2, ⟨mc2, rfl⟩⟩ := hcut
   cases kq with
   | zero => exact absurd HA.out (by simp [reredosref07_kind.j0])
   | succ kj2 =>
    have H := HA.out
    clear HA
    simp only [reredosref07_kind.j0] at H
    by_cases c9 : x11_2 = true
    ·subst c9
     have H1 : (some 2) = some r := by rw [if_pos rfl] at H; exact H
     clear H
     have H := H1
     clear H1
     obtain rfl := Option.some.inj H
     go_wp2
     go_ret
     exact ⟨by first | rfl | (simp; done) | (simp [*]; done), by repeat (first | exact Drawn0.refl _ | apply Drawn0.step)⟩
    ·replace c9 := Bool.eq_false_iff.mpr c9
     subst c9
     have H1 : (if 0 < (a0.size : Int) then ((reredosref07_has.f kj2 (⟨#[65, 66, 67, 68, 69, 70, 71, 72, 73, 74, 75, 76, 77, 78, 79, 80, 81, 82, 83, 84, 85, 86, 87, 88, 89, 90]⟩ : ByteArray) (bt a0 0)).bind fun t277 => (if t277 = true then ((reredosref07_all.f kj2 a0 1 (⟨#[65, 66, 67, 68, 69, 70, 71, 72, 73, 74, 75, 76, 77, 78, 79, 80, 81, 82, 83, 84, 85, 86, 87, 88, 89, 90, 97, 98, 99, 100, 101, 102, 103, 104, 105, 106, 107, 108, 109, 110, 111, 112, 113, 114, 115, 116, 117, 118, 119, 120, 121, 122, 48, 49, 50, 51, 52, 53, 54, 55, 56, 57]⟩ : ByteArray)).bind fun t278 => (reredosref07_kind.j1 kj2 a0 t278)) else (reredosref07_kind.j1 kj2 a0 false))) else (none)) = some r := by rw [if_neg (show ¬ (false = true) by decide)] at H; exact H
     clear H
     have H := H1
     clear H1
     have HC10 := am H
     clear H
     go_upto_region 5 with (fail)
     go_cut [18] (fun v18 wc => ∃ (kq : Nat) (x18_9 : Bool), v18 = .bool x18_9 ∧ Aside0 (reredosref07_kind.j1 kq a0 x18_9 = some r) ∧ Aside0 (kq ≤ kj2) ∧ Drawn0 w wc)
     case first =>
      have H := HC10.out
      clear HC10
      by_cases c11 : 0 < (a0.size : Int)
      ·rw [if_pos c11] at H
       have c11b0 : decide (0 < (a0.size : Int)) = true := decide_eq_true c11
       have c11b1 : decide (0 < a0.size) = true := decide_eq_true (by omega)
       clear c11
       (first | rw [c11b0] | (simp only [i64_w, i32_w]; rw [c11b0]) | skip)
       replace H := Option.bind_eq_some_iff.mp H
       obtain ⟨t277, A130, H⟩ := H
       replace H : (if t277 = true then ((reredosref07_all.f kj2 a0 1 (⟨#[65, 66, 67, 68, 69, 70, 71, 72, 73, 74, 75, 76, 77, 78, 79, 80, 81, 82, 83, 84, 85, 86, 87, 88, 89, 90, 97, 98, 99, 100, 101, 102, 103, 104, 105, 106, 107, 108, 109, 110, 111, 112, 113, 114, 115, 116, 117, 118, 119, 120, 121, 122, 48, 49, 50, 51, 52, 53, 54, 55, 56, 57]⟩ : ByteArray)).bind fun t278 => (reredosref07_kind.j1 kj2 a0 t278)) else (reredosref07_kind.j1 kj2 a0 false)) = some r := H
       have A13 := am A130
       clear A130
       by_cases c14 : t277 = true
       ·subst c14
        have H1 : ((reredosref07_all.f kj2 a0 1 (⟨#[65, 66, 67, 68, 69, 70, 71, 72, 73, 74, 75, 76, 77, 78, 79, 80, 81, 82, 83, 84, 85, 86, 87, 88, 89, 90, 97, 98, 99, 100, 101, 102, 103, 104, 105, 106, 107, 108, 109, 110, 111, 112, 113, 114, 115, 116, 117, 118, 119, 120, 121, 122, 48, 49, 50, 51, 52, 53, 54, 55, 56, 57]⟩ : ByteArray)).bind fun t278 => (reredosref07_kind.j1 kj2 a0 t278)) = some r := by rw [if_pos rfl] at H; exact H
        clear H
        have H := H1
        clear H1
        replace H := Option.bind_eq_some_iff.mp H
        obtain ⟨t278, A150, H⟩ := H
        replace H : (reredosref07_kind.j1 kj2 a0 t278) = some r := H
        have A15 := am A150
        clear A150
        have H' := am H
        clear H
        have p12 : 0 ≤ (0 : Int) := (by omega)
        have q12 : 0 < a0.size := (by have : (0 : Int) < (a0.size : Int) := of_decide_eq_true (by first | (with_reducible assumption) | assumption); omega)
        have hx12 : ∀ h : 0 < a0.size, ((a0[0]'h).toNat : Int) = bt a0 0 := bt_at a0 0
        clear p12
        have qi12 : (0 < (a0.size : Int)) = True := eq_true (of_decide_eq_true (by first | (with_reducible assumption) | assumption))
        replace q12 := eq_true q12
        go_wp2_with (first | ((with_reducible refine gate_callee (f := 69) rfl ?_); refine goesL_ (some 14) rfl rfl Try.func69 (by kernel_rfl) rfl #[.string (⟨#[65, 66, 67, 68, 69, 70, 71, 72, 73, 74, 75, 76, 77, 78, 79, 80, 81, 82, 83, 84, 85, 86, 87, 88, 89, 90]⟩ : ByteArray), .int .u8 (bt a0 0)] rfl (by (try simp only [List.map_toArray, List.map_cons, List.map_nil]); first | done | rfl | (simp only [List.length_drop, List.length_take]; rfl)) ?_; (with_reducible refine (reredosref07_has.calls kj2 (⟨#[65, 66, 67, 68, 69, 70, 71, 72, 73, 74, 75, 76, 77, 78, 79, 80, 81, 82, 83, 84, 85, 86, 87, 88, 89, 90]⟩ : ByteArray) (bt a0 0) true _ A13.out).mono ?_); rintro e w' ⟨rfl, ⟨nd, rfl⟩⟩; refine ⟨_, rfl, ?_⟩) | (go_at_call 70; (with_reducible refine (reredosref07_all.calls kj2 a0 1 (⟨#[65, 66, 67, 68, 69, 70, 71, 72, 73, 74, 75, 76, 77, 78, 79, 80, 81, 82, 83, 84, 85, 86, 87, 88, 89, 90, 97, 98, 99, 100, 101, 102, 103, 104, 105, 106, 107, 108, 109, 110, 111, 112, 113, 114, 115, 116, 117, 118, 119, 120, 121, 122, 48, 49, 50, 51, 52, 53, 54, 55, 56, 57]⟩ : ByteArray) t278 _ A15.out).mono ?_); rintro e w' ⟨rfl, ⟨nd, rfl⟩⟩))
        go_meet
        case rel => exact ⟨_, (t278), (by first | rfl | (simp; done) | (simp [*]; done)), H', ⟨by have := HJ2.out; first | omega | exact Nat.le_refl _⟩, by repeat (first | exact Drawn0.refl _ | apply Drawn0.step)⟩
       ·replace c14 := Bool.eq_false_iff.mpr c14
        subst c14
        have H1 : (reredosref07_kind.j1 kj2 a0 false) = some r := by rw [if_neg (show ¬ (false = true) by decide)] at H; exact H
        clear H
        have H := H1
        clear H1
        have H' := am H
        clear H
        have p12 : 0 ≤ (0 : Int) := (by omega)
        have q12 : 0 < a0.size := (by have : (0 : Int) < (a0.size : Int) := of_decide_eq_true (by first | (with_reducible assumption) | assumption); omega)
        have hx12 : ∀ h : 0 < a0.size, ((a0[0]'h).toNat : Int) = bt a0 0 := bt_at a0 0
        clear p12
        have qi12 : (0 < (a0.size : Int)) = True := eq_true (of_decide_eq_true (by first | (with_reducible assumption) | assumption))
        replace q12 := eq_true q12
        go_wp2_with (first | ((with_reducible refine gate_callee (f := 69) rfl ?_); refine goesL_ (some 14) rfl rfl Try.func69 (by kernel_rfl) rfl #[.string (⟨#[65, 66, 67, 68, 69, 70, 71, 72, 73, 74, 75, 76, 77, 78, 79, 80, 81, 82, 83, 84, 85, 86, 87, 88, 89, 90]⟩ : ByteArray), .int .u8 (bt a0 0)] rfl (by (try simp only [List.map_toArray, List.map_cons, List.map_nil]); first | done | rfl | (simp only [List.length_drop, List.length_take]; rfl)) ?_; (with_reducible refine (reredosref07_has.calls kj2 (⟨#[65, 66, 67, 68, 69, 70, 71, 72, 73, 74, 75, 76, 77, 78, 79, 80, 81, 82, 83, 84, 85, 86, 87, 88, 89, 90]⟩ : ByteArray) (bt a0 0) false _ A13.out).mono ?_); rintro e w' ⟨rfl, ⟨nd, rfl⟩⟩; refine ⟨_, rfl, ?_⟩))
        go_meet
        case rel => exact ⟨_, (false), (by first | rfl | (simp; done) | (simp [*]; done)), H', ⟨by have := HJ2.out; first | omega | exact Nat.le_refl _⟩, by repeat (first | exact Drawn0.refl _ | apply Drawn0.step)⟩
      ·rw [if_neg c11] at H
       exact absurd H (by simp)
     case rest =>
      clear HC10
      try clear c1
      try clear p1
      try clear q1
      try clear hx1
      try clear qi1
      try clear c2
      try clear c2b0
      try clear c2b1
      try clear p2
      try clear c4
      try clear c4b0
      try clear c4b1
      try clear c5
      try clear p5
      try clear q5
      try clear hx5
      try clear qi5
      try clear c6
      try clear c7
      try clear c9
      try clear c11
      try clear c11b0
      try clear c11b1
      try clear p12
      try clear q12
      try clear hx12
      try clear qi12
      try clear c14
      try clear p12
      try clear p2
      try clear p5
      try clear q12
      try clear q5
      obtain ⟨kq, x18_9, rfl, HA, HJ9, ⟨mc9, rfl⟩⟩ := hcut
      cases kq with
      | zero => exact absurd HA.out (by simp [reredosref07_kind.j1])
      | succ kj9 =>
       have H := HA.out
       clear HA
       simp only [reredosref07_kind.j1] at H
       by_cases c16 : x18_9 = true
       ·subst c16
        have H1 : (some 3) = some r := by rw [if_pos rfl] at H; exact H
        clear H
        have H := H1
        clear H1
        obtain rfl := Option.some.inj H
        go_wp2
        go_ret
        exact ⟨by first | rfl | (simp; done) | (simp [*]; done), by repeat (first | exact Drawn0.refl _ | apply Drawn0.step)⟩
       ·replace c16 := Bool.eq_false_iff.mpr c16
        subst c16
        have H1 : (if (a0.size : Int) = 1 then (if 0 < (a0.size : Int) then ((reredosref07_has.f kj9 (⟨#[43, 45, 42, 37, 33, 38, 124, 60, 62, 61, 126, 44, 35, 94, 36, 63, 64]⟩ : ByteArray) (bt a0 0)).bind fun t279 => (reredosref07_kind.j2 kj9 a0 t279)) else (none)) else (reredosref07_kind.j2 kj9 a0 false)) = some r := by rw [if_neg (show ¬ (false = true) by decide)] at H; exact H
        clear H
        have H := H1
        clear H1
        have HC17 := am H
        clear H
        go_upto_region 7 with (fail)
        go_cut [26] (fun v26 wc => ∃ (kq : Nat) (x26_16 : Bool), v26 = .bool x26_16 ∧ Aside0 (reredosref07_kind.j2 kq a0 x26_16 = some r) ∧ Aside0 (kq ≤ kj9) ∧ Drawn0 w wc)
        case first =>
         have H := HC17.out
         clear HC17
         by_cases c18 : (a0.size : Int) = 1
         ·rw [if_pos c18] at H
          have c18b0 : ((a0.size : Int) == 1) = true := beq_iff_eq.mpr c18
          have c18b1 : ((a0.size : Int) != 1) = false := bne_eq_false_iff_eq.mpr c18
          clear c18
          (first | rw [c18b0] | (simp only [i64_w, i32_w]; rw [c18b0]) | skip)
          by_cases c19 : 0 < (a0.size : Int)
          ·rw [if_pos c19] at H
           have c19b0 : decide (0 < (a0.size : Int)) = true := decide_eq_true c19
           have c19b1 : decide (0 < a0.size) = true := decide_eq_true (by omega)
           clear c19
           replace H := Option.bind_eq_some_iff.mp H
           obtain ⟨t279, A210, H⟩ := H
           replace H : (reredosref07_kind.j2 kj9 a0 t279) = some r := H
           have A21 := am A210
           clear A210
           have H' := am H
           clear H
           have p20 : 0 ≤ (0 : Int) := (by omega)
           have q20 : 0 < a0.size := (by have : (0 : Int) < (a0.size : Int) := of_decide_eq_true (by first | (with_reducible assumption) | assumption); omega)
           have hx20 : ∀ h : 0 < a0.size, ((a0[0]'h).toNat : Int) = bt a0 0 := bt_at a0 0
           clear p20
           have qi20 : (0 < (a0.size : Int)) = True := eq_true (of_decide_eq_true (by first | (with_reducible assumption) | assumption))
           replace q20 := eq_true q20
           go_wp2_with (first | (go_at_call 69; (with_reducible refine (reredosref07_has.calls kj9 (⟨#[43, 45, 42, 37, 33, 38, 124, 60, 62, 61, 126, 44, 35, 94, 36, 63, 64]⟩ : ByteArray) (bt a0 0) t279 _ A21.out).mono ?_); rintro e w' ⟨rfl, ⟨nd, rfl⟩⟩))
           go_meet
           case rel => exact ⟨_, (t279), (by first | rfl | (simp; done) | (simp [*]; done)), H', ⟨by have := HJ2.out; have := HJ9.out; first | omega | exact Nat.le_refl _⟩, by repeat (first | exact Drawn0.refl _ | apply Drawn0.step)⟩
          ·rw [if_neg c19] at H
           exact absurd H (by simp)
         ·rw [if_neg c18] at H
          have c18b0 : ((a0.size : Int) == 1) = false := beq_eq_false_iff_ne.mpr c18
          have c18b1 : ((a0.size : Int) != 1) = true := bne_iff_ne.mpr c18
          (first | rw [c18b0] | (simp only [i64_w, i32_w]; rw [c18b0]) | skip)
          have H' := am H
          clear H
          go_wp2
          go_meet
          case rel => exact ⟨_, (false), (by first | rfl | (simp; done) | (simp [*]; done)), H', ⟨by have := HJ2.out; have := HJ9.out; first | omega | exact Nat.le_refl _⟩, by repeat (first | exact Drawn0.refl _ | apply Drawn0.step)⟩
        case rest =>
         clear HC17
         try clear c1
         try clear p1
         try clear q1
         try clear hx1
         try clear qi1
         try clear c2
         try clear c2b0
         try clear c2b1
         try clear p2
         try clear q2
         try clear hx2
         try clear qi2
         try clear c4
         try clear c4b0
         try clear c4b1
         try clear c5
         try clear p5
         try clear q5
         try clear hx5
         try clear qi5
         try clear c6
         try clear c7
         try clear c9
         try clear c11
         try clear c11b0
         try clear c11b1
         try clear p12
         try clear q12
         try clear hx12
         try clear qi12
         try clear c14
         try clear c16
         try clear c18
         try clear c18b0
         try clear c18b1
         try clear c19
         try clear c19b0
         try clear c19b1
         try clear p20
         try clear q20
         try clear hx20
         try clear qi20
         try clear p1
         try clear p12
         try clear p2
         try clear p20
         try clear p5
         try clear q1
         try clear q12
         try clear q20
         try clear q5
         obtain ⟨kq, x26_16, rfl, HA, HJ16, ⟨mc16, rfl⟩⟩ := hcut
         cases kq with
         | zero => exact absurd HA.out (by simp [reredosref07_kind.j2])
         | succ kj16 =>
          have H := HA.out
          clear HA
          simp only [reredosref07_kind.j2] at H
          by_cases c22 : x26_16 = true
          ·subst c22
           have H1 : (some 4) = some r := by rw [if_pos rfl] at H; exact H
           clear H
           have H := H1
           clear H1
           obtain rfl := Option.some.inj H
           go_wp2
           go_ret
           exact ⟨by first | rfl | (simp; done) | (simp [*]; done), by repeat (first | exact Drawn0.refl _ | apply Drawn0.step)⟩
          ·replace c22 := Bool.eq_false_iff.mpr c22
           subst c22
           have H1 : (if (a0.size : Int) = 1 then (if 0 < (a0.size : Int) then ((reredosref07_has.f kj16 (⟨#[39, 47, 92, 46, 96]⟩ : ByteArray) (bt a0 0)).bind fun t280 => (reredosref07_kind.j3 kj16 a0 t280)) else (none)) else (reredosref07_kind.j3 kj16 a0 false)) = some r := by rw [if_neg (show ¬ (false = true) by decide)] at H; exact H
           clear H
           have H := H1
           clear H1
           have HC23 := am H
           clear H
           go_upto_region 9 with (fail)
           go_cut [34] (fun v34 wc => ∃ (kq : Nat) (x34_22 : Bool), v34 = .bool x34_22 ∧ Aside0 (reredosref07_kind.j3 kq a0 x34_22 = some r) ∧ Aside0 (kq ≤ kj16) ∧ Drawn0 w wc)
           case first =>
            have H := HC23.out
            clear HC23
            by_cases c24 : (a0.size : Int) = 1
            ·rw [if_pos c24] at H
             have c24b0 : ((a0.size : Int) == 1) = true := beq_iff_eq.mpr c24
             have c24b1 : ((a0.size : Int) != 1) = false := bne_eq_false_iff_eq.mpr c24
             clear c24
             (first | rw [c24b0] | (simp only [i64_w, i32_w]; rw [c24b0]) | skip)
             by_cases c25 : 0 < (a0.size : Int)
             ·rw [if_pos c25] at H
              have c25b0 : decide (0 < (a0.size : Int)) = true := decide_eq_true c25
              have c25b1 : decide (0 < a0.size) = true := decide_eq_true (by omega)
              clear c25
              replace H := Option.bind_eq_some_iff.mp H
              obtain ⟨t280, A270, H⟩ := H
              replace H : (reredosref07_kind.j3 kj16 a0 t280) = some r := H
              have A27 := am A270
              clear A270
              have H' := am H
              clear H
              have p26 : 0 ≤ (0 : Int) := (by omega)
              have q26 : 0 < a0.size := (by have : (0 : Int) < (a0.size : Int) := of_decide_eq_true (by first | (with_reducible assumption) | assumption); omega)
              have hx26 : ∀ h : 0 < a0.size, ((a0[0]'h).toNat : Int) = bt a0 0 := bt_at a0 0
              clear p26
              have qi26 : (0 < (a0.size : Int)) = True := eq_true (of_decide_eq_true (by first | (with_reducible assumption) | assumption))
              replace q26 := eq_true q26
              go_wp2_with (first | (go_at_call 69; (with_reducible refine (reredosref07_has.calls kj16 (⟨#[39, 47, 92, 46, 96]⟩ : ByteArray) (bt a0 0) t280 _ A27.out).mono ?_); rintro e w' ⟨rfl, ⟨nd, rfl⟩⟩))
              go_meet
              case rel => exact ⟨_, (t280), (by first | rfl | (simp; done) | (simp [*]; done)), H', ⟨by have := HJ2.out; have := HJ9.out; have := HJ16.out; first | omega | exact Nat.le_refl _⟩, by repeat (first | exact Drawn0.refl _ | apply Drawn0.step)⟩
             ·rw [if_neg c25] at H
              exact absurd H (by simp)
            ·rw [if_neg c24] at H
             have c24b0 : ((a0.size : Int) == 1) = false := beq_eq_false_iff_ne.mpr c24
             have c24b1 : ((a0.size : Int) != 1) = true := bne_iff_ne.mpr c24
             (first | rw [c24b0] | (simp only [i64_w, i32_w]; rw [c24b0]) | skip)
             have H' := am H
             clear H
             go_wp2
             go_meet
             case rel => exact ⟨_, (false), (by first | rfl | (simp; done) | (simp [*]; done)), H', ⟨by have := HJ2.out; have := HJ9.out; have := HJ16.out; first | omega | exact Nat.le_refl _⟩, by repeat (first | exact Drawn0.refl _ | apply Drawn0.step)⟩
           case rest =>
            clear HC23
            try clear c1
            try clear p1
            try clear q1
            try clear hx1
            try clear qi1
            try clear c2
            try clear c2b0
            try clear c2b1
            try clear p2
            try clear q2
            try clear hx2
            try clear qi2
            try clear c4
            try clear c4b0
            try clear c4b1
            try clear c5
            try clear p5
            try clear q5
            try clear hx5
            try clear qi5
            try clear c6
            try clear c7
            try clear c9
            try clear c11
            try clear c11b0
            try clear c11b1
            try clear p12
            try clear q12
            try clear hx12
            try clear qi12
            try clear c14
            try clear c16
            try clear c18
            try clear c18b0
            try clear c18b1
            try clear c19
            try clear c19b0
            try clear c19b1
            try clear p20
            try clear q20
            try clear hx20
            try clear qi20
            try clear c22
            try clear c24
            try clear c24b0
            try clear c24b1
            try clear c25
            try clear c25b0
            try clear c25b1
            try clear p26
            try clear q26
            try clear hx26
            try clear qi26
            try clear p1
            try clear p12
            try clear p2
            try clear p20
            try clear p26
            try clear p5
            try clear q1
            try clear q12
            try clear q2
            try clear q20
            try clear q26
            try clear q5
            obtain ⟨kq, x34_22, rfl, HA, HJ22, ⟨mc22, rfl⟩⟩ := hcut
            cases kq with
            | zero => exact absurd HA.out (by simp [reredosref07_kind.j3])
            | succ kj22 =>
             have H := HA.out
             clear HA
             simp only [reredosref07_kind.j3] at H
             by_cases c28 : x34_22 = true
             ·subst c28
              have H1 : (some 5) = some r := by rw [if_pos rfl] at H; exact H
              clear H
              have H := H1
              clear H1
              obtain rfl := Option.some.inj H
              go_wp2
              go_ret
              exact ⟨by first | rfl | (simp; done) | (simp [*]; done), by repeat (first | exact Drawn0.refl _ | apply Drawn0.step)⟩
             ·replace c28 := Bool.eq_false_iff.mpr c28
              subst c28
              have H1 : (if (a0.size : Int) = 1 then (if 0 < (a0.size : Int) then ((reredosref07_has.f kj22 (⟨#[40, 41, 91, 93, 123, 125, 58]⟩ : ByteArray) (bt a0 0)).bind fun t281 => (reredosref07_kind.j4 kj22 a0 t281)) else (none)) else (reredosref07_kind.j4 kj22 a0 false)) = some r := by rw [if_neg (show ¬ (false = true) by decide)] at H; exact H
              clear H
              have H := H1
              clear H1
              have HC29 := am H
              clear H
              go_upto_region 11 with (fail)
              go_cut [42] (fun v42 wc => ∃ (kq : Nat) (x42_28 : Bool), v42 = .bool x42_28 ∧ Aside0 (reredosref07_kind.j4 kq a0 x42_28 = some r) ∧ Aside0 (kq ≤ kj22) ∧ Drawn0 w wc)
              case first =>
               have H := HC29.out
               clear HC29
               by_cases c30 : (a0.size : Int) = 1
               ·rw [if_pos c30] at H
                have c30b0 : ((a0.size : Int) == 1) = true := beq_iff_eq.mpr c30
                have c30b1 : ((a0.size : Int) != 1) = false := bne_eq_false_iff_eq.mpr c30
                clear c30
                (first | rw [c30b0] | (simp only [i64_w, i32_w]; rw [c30b0]) | skip)
                by_cases c31 : 0 < (a0.size : Int)
                ·rw [if_pos c31] at H
                 have c31b0 : decide (0 < (a0.size : Int)) = true := decide_eq_true c31
                 have c31b1 : decide (0 < a0.size) = true := decide_eq_true (by omega)
                 clear c31
                 replace H := Option.bind_eq_some_iff.mp H
                 obtain ⟨t281, A330, H⟩ := H
                 replace H : (reredosref07_kind.j4 kj22 a0 t281) = some r := H
                 have A33 := am A330
                 clear A330
                 have H' := am H
                 clear H
                 have p32 : 0 ≤ (0 : Int) := (by omega)
                 have q32 : 0 < a0.size := (by have : (0 : Int) < (a0.size : Int) := of_decide_eq_true (by first | (with_reducible assumption) | assumption); omega)
                 have hx32 : ∀ h : 0 < a0.size, ((a0[0]'h).toNat : Int) = bt a0 0 := bt_at a0 0
                 clear p32
                 have qi32 : (0 < (a0.size : Int)) = True := eq_true (of_decide_eq_true (by first | (with_reducible assumption) | assumption))
                 replace q32 := eq_true q32
                 go_wp2_with (first | (go_at_call 69; (with_reducible refine (reredosref07_has.calls kj22 (⟨#[40, 41, 91, 93, 123, 125, 58]⟩ : ByteArray) (bt a0 0) t281 _ A33.out).mono ?_); rintro e w' ⟨rfl, ⟨nd, rfl⟩⟩))
                 go_meet
                 case rel => exact ⟨_, (t281), (by first | rfl | (simp; done) | (simp [*]; done)), H', ⟨by have := HJ2.out; have := HJ9.out; have := HJ16.out; have := HJ22.out; first | omega | exact Nat.le_refl _⟩, by repeat (first | exact Drawn0.refl _ | apply Drawn0.step)⟩
                ·rw [if_neg c31] at H
                 exact absurd H (by simp)
               ·rw [if_neg c30] at H
                have c30b0 : ((a0.size : Int) == 1) = false := beq_eq_false_iff_ne.mpr c30
                have c30b1 : ((a0.size : Int) != 1) = true := bne_iff_ne.mpr c30
                (first | rw [c30b0] | (simp only [i64_w, i32_w]; rw [c30b0]) | skip)
                have H' := am H
                clear H
                go_wp2
                go_meet
                case rel => exact ⟨_, (false), (by first | rfl | (simp; done) | (simp [*]; done)), H', ⟨by have := HJ2.out; have := HJ9.out; have := HJ16.out; have := HJ22.out; first | omega | exact Nat.le_refl _⟩, by repeat (first | exact Drawn0.refl _ | apply Drawn0.step)⟩
              case rest =>
               clear HC29
               try clear c1
               try clear p1
               try clear q1
               try clear hx1
               try clear qi1
               try clear c2
               try clear c2b0
               try clear c2b1
               try clear p2
               try clear q2
               try clear hx2
               try clear qi2
               try clear c3
               try clear p3
               try clear q3
               try clear hx3
               try clear qi3
               try clear c4
               try clear c4b0
               try clear c4b1
               try clear c5
               try clear p5
               try clear q5
               try clear hx5
               try clear qi5
               try clear c6
               try clear c7
               try clear c9
               try clear c11
               try clear c11b0
               try clear c11b1
               try clear p12
               try clear q12
               try clear hx12
               try clear qi12
               try clear c14
               try clear c16
               try clear c18
               try clear c18b0
               try clear c18b1
               try clear c19
               try clear c19b0
               try clear c19b1
               try clear p20
               try clear q20
               try clear hx20
               try clear qi20
               try clear c22
               try clear c24
               try clear c24b0
               try clear c24b1
               try clear c25
               try clear c25b0
               try clear c25b1
               try clear p26
               try clear q26
               try clear hx26
               try clear qi26
               try clear c28
               try clear c30
               try clear c30b0
               try clear c30b1
               try clear c31
               try clear c31b0
               try clear c31b1
               try clear p32
               try clear q32
               try clear hx32
               try clear qi32
               try clear p1
               try clear p12
               try clear p2
               try clear p20
               try clear p26
               try clear p32
               try clear p5
               try clear q1
               try clear q12
               try clear q2
               try clear q20
               try clear q26
               try clear q32
               try clear q5
               obtain ⟨kq, x42_28, rfl, HA, HJ28, ⟨mc28, rfl⟩⟩ := hcut
               cases kq with
               | zero => exact absurd HA.out (by simp [reredosref07_kind.j4])
               | succ kj28 =>
                have H := HA.out
                clear HA
                simp only [reredosref07_kind.j4] at H
                by_cases c34 : x42_28 = true
                ·subst c34
                 have H1 : (some 6) = some r := by rw [if_pos rfl] at H; exact H
                 clear H
                 have H := H1
                 clear H1
                 obtain rfl := Option.some.inj H
                 go_wp2
                 go_ret
                 exact ⟨by first | rfl | (simp; done) | (simp [*]; done), by repeat (first | exact Drawn0.refl _ | apply Drawn0.step)⟩
                ·replace c34 := Bool.eq_false_iff.mpr c34
                 subst c34
                 have H1 : (if 0 < (a0.size : Int) then (if (bt a0 0) = 95 then ((reredosref07_all.f kj28 a0 1 (⟨#[48, 49, 50, 51, 52, 53, 54, 55, 56, 57]⟩ : ByteArray)).bind fun t282 => (if t282 = true then (some 1) else (some 0))) else ((reredosref07_has.f kj28 (⟨#[48, 49, 50, 51, 52, 53, 54, 55, 56, 57]⟩ : ByteArray) (bt a0 0)).bind fun t283 => (if t283 = true then ((reredosref07_all.f kj28 a0 1 (⟨#[48, 49, 50, 51, 52, 53, 54, 55, 56, 57]⟩ : ByteArray)).bind fun t284 => (if t284 = true then (some 1) else (some 0))) else (some 0)))) else (none)) = some r := by rw [if_neg (show ¬ (false = true) by decide)] at H; exact H
                 clear H
                 have H := H1
                 clear H1
                 by_cases c35 : 0 < (a0.size : Int)
                 ·rw [if_pos c35] at H
                  have c35b0 : decide (0 < (a0.size : Int)) = true := decide_eq_true c35
                  have c35b1 : decide (0 < a0.size) = true := decide_eq_true (by omega)
                  clear c35
                  by_cases c37 : (bt a0 0) = 95
                  ·rw [if_pos c37] at H
                   have c37b0 : ((bt a0 0) == 95) = true := beq_iff_eq.mpr c37
                   have c37b1 : ((bt a0 0) != 95) = false := bne_eq_false_iff_eq.mpr c37
                   clear c37
                   replace H := Option.bind_eq_some_iff.mp H
                   obtain ⟨t282, A380, H⟩ := H
                   replace H : (if t282 = true then (some 1) else (some 0)) = some r := H
                   have A38 := am A380
                   clear A380
                   by_cases c39 : t282 = true
                   ·subst c39
                    have H1 : (some 1) = some r := by rw [if_pos rfl] at H; exact H
                    clear H
                    have H := H1
                    clear H1
                    obtain rfl := Option.some.inj H
                    have p36 : 0 ≤ (0 : Int) := (by omega)
                    have q36 : 0 < a0.size := (by have : (0 : Int) < (a0.size : Int) := of_decide_eq_true (by first | (with_reducible assumption) | assumption); omega)
                    have hx36 : ∀ h : 0 < a0.size, ((a0[0]'h).toNat : Int) = bt a0 0 := bt_at a0 0
                    clear p36
                    have qi36 : (0 < (a0.size : Int)) = True := eq_true (of_decide_eq_true (by first | (with_reducible assumption) | assumption))
                    replace q36 := eq_true q36
                    go_wp2_with (first | (go_at_call 70; (with_reducible refine (reredosref07_all.calls kj28 a0 1 (⟨#[48, 49, 50, 51, 52, 53, 54, 55, 56, 57]⟩ : ByteArray) true _ A38.out).mono ?_); rintro e w' ⟨rfl, ⟨nd, rfl⟩⟩))
                    go_ret
                    exact ⟨by first | rfl | (simp; done) | (simp [*]; done), by repeat (first | exact Drawn0.refl _ | apply Drawn0.step)⟩
                   ·replace c39 := Bool.eq_false_iff.mpr c39
                    subst c39
                    have H1 : (some 0) = some r := by rw [if_neg (show ¬ (false = true) by decide)] at H; exact H
                    clear H
                    have H := H1
                    clear H1
                    obtain rfl := Option.some.inj H
                    have p36 : 0 ≤ (0 : Int) := (by omega)
                    have q36 : 0 < a0.size := (by have : (0 : Int) < (a0.size : Int) := of_decide_eq_true (by first | (with_reducible assumption) | assumption); omega)
                    have hx36 : ∀ h : 0 < a0.size, ((a0[0]'h).toNat : Int) = bt a0 0 := bt_at a0 0
                    clear p36
                    have qi36 : (0 < (a0.size : Int)) = True := eq_true (of_decide_eq_true (by first | (with_reducible assumption) | assumption))
                    replace q36 := eq_true q36
                    go_wp2_with (first | (go_at_call 70; (with_reducible refine (reredosref07_all.calls kj28 a0 1 (⟨#[48, 49, 50, 51, 52, 53, 54, 55, 56, 57]⟩ : ByteArray) false _ A38.out).mono ?_); rintro e w' ⟨rfl, ⟨nd, rfl⟩⟩))
                    go_ret
                    exact ⟨by first | rfl | (simp; done) | (simp [*]; done), by repeat (first | exact Drawn0.refl _ | apply Drawn0.step)⟩
                  ·rw [if_neg c37] at H
                   have c37b0 : ((bt a0 0) == 95) = false := beq_eq_false_iff_ne.mpr c37
                   have c37b1 : ((bt a0 0) != 95) = true := bne_iff_ne.mpr c37
                   replace H := Option.bind_eq_some_iff.mp H
                   obtain ⟨t283, A410, H⟩ := H
                   replace H : (if t283 = true then ((reredosref07_all.f kj28 a0 1 (⟨#[48, 49, 50, 51, 52, 53, 54, 55, 56, 57]⟩ : ByteArray)).bind fun t284 => (if t284 = true then (some 1) else (some 0))) else (some 0)) = some r := H
                   have A41 := am A410
                   clear A410
                   by_cases c42 : t283 = true
                   ·subst c42
                    have H1 : ((reredosref07_all.f kj28 a0 1 (⟨#[48, 49, 50, 51, 52, 53, 54, 55, 56, 57]⟩ : ByteArray)).bind fun t284 => (if t284 = true then (some 1) else (some 0))) = some r := by rw [if_pos rfl] at H; exact H
                    clear H
                    have H := H1
                    clear H1
                    replace H := Option.bind_eq_some_iff.mp H
                    obtain ⟨t284, A430, H⟩ := H
                    replace H : (if t284 = true then (some 1) else (some 0)) = some r := H
                    have A43 := am A430
                    clear A430
                    by_cases c44 : t284 = true
                    ·subst c44
                     have H1 : (some 1) = some r := by rw [if_pos rfl] at H; exact H
                     clear H
                     have H := H1
                     clear H1
                     obtain rfl := Option.some.inj H
                     have p36 : 0 ≤ (0 : Int) := (by omega)
                     have q36 : 0 < a0.size := (by have : (0 : Int) < (a0.size : Int) := of_decide_eq_true (by first | (with_reducible assumption) | assumption); omega)
                     have hx36 : ∀ h : 0 < a0.size, ((a0[0]'h).toNat : Int) = bt a0 0 := bt_at a0 0
                     clear p36
                     have qi36 : (0 < (a0.size : Int)) = True := eq_true (of_decide_eq_true (by first | (with_reducible assumption) | assumption))
                     replace q36 := eq_true q36
                     have p40 : 0 ≤ (0 : Int) := (by omega)
                     have q40 : 0 < a0.size := (by have : (0 : Int) < (a0.size : Int) := of_decide_eq_true (by first | (with_reducible assumption) | assumption); omega)
                     have hx40 : ∀ h : 0 < a0.size, ((a0[0]'h).toNat : Int) = bt a0 0 := bt_at a0 0
                     clear p40
                     have qi40 : (0 < (a0.size : Int)) = True := eq_true (of_decide_eq_true (by first | (with_reducible assumption) | assumption))
                     replace q40 := eq_true q40
                     go_wp2_with (first | (go_at_call 69; (with_reducible refine (reredosref07_has.calls kj28 (⟨#[48, 49, 50, 51, 52, 53, 54, 55, 56, 57]⟩ : ByteArray) (bt a0 0) true _ A41.out).mono ?_); rintro e w' ⟨rfl, ⟨nd, rfl⟩⟩) | (go_at_call 70; (with_reducible refine (reredosref07_all.calls kj28 a0 1 (⟨#[48, 49, 50, 51, 52, 53, 54, 55, 56, 57]⟩ : ByteArray) true _ A43.out).mono ?_); rintro e w' ⟨rfl, ⟨nd, rfl⟩⟩))
                     go_ret
                     exact ⟨by first | rfl | (simp; done) | (simp [*]; done), by repeat (first | exact Drawn0.refl _ | apply Drawn0.step)⟩
                    ·replace c44 := Bool.eq_false_iff.mpr c44
                     subst c44
                     have H1 : (some 0) = some r := by rw [if_neg (show ¬ (false = true) by decide)] at H; exact H
                     clear H
                     have H := H1
                     clear H1
                     obtain rfl := Option.some.inj H
                     have p36 : 0 ≤ (0 : Int) := (by omega)
                     have q36 : 0 < a0.size := (by have : (0 : Int) < (a0.size : Int) := of_decide_eq_true (by first | (with_reducible assumption) | assumption); omega)
                     have hx36 : ∀ h : 0 < a0.size, ((a0[0]'h).toNat : Int) = bt a0 0 := bt_at a0 0
                     clear p36
                     have qi36 : (0 < (a0.size : Int)) = True := eq_true (of_decide_eq_true (by first | (with_reducible assumption) | assumption))
                     replace q36 := eq_true q36
                     have p40 : 0 ≤ (0 : Int) := (by omega)
                     have q40 : 0 < a0.size := (by have : (0 : Int) < (a0.size : Int) := of_decide_eq_true (by first | (with_reducible assumption) | assumption); omega)
                     have hx40 : ∀ h : 0 < a0.size, ((a0[0]'h).toNat : Int) = bt a0 0 := bt_at a0 0
                     clear p40
                     have qi40 : (0 < (a0.size : Int)) = True := eq_true (of_decide_eq_true (by first | (with_reducible assumption) | assumption))
                     replace q40 := eq_true q40
                     go_wp2_with (first | (go_at_call 69; (with_reducible refine (reredosref07_has.calls kj28 (⟨#[48, 49, 50, 51, 52, 53, 54, 55, 56, 57]⟩ : ByteArray) (bt a0 0) true _ A41.out).mono ?_); rintro e w' ⟨rfl, ⟨nd, rfl⟩⟩) | (go_at_call 70; (with_reducible refine (reredosref07_all.calls kj28 a0 1 (⟨#[48, 49, 50, 51, 52, 53, 54, 55, 56, 57]⟩ : ByteArray) false _ A43.out).mono ?_); rintro e w' ⟨rfl, ⟨nd, rfl⟩⟩))
                     go_ret
                     exact ⟨by first | rfl | (simp; done) | (simp [*]; done), by repeat (first | exact Drawn0.refl _ | apply Drawn0.step)⟩
                   ·replace c42 := Bool.eq_false_iff.mpr c42
                    subst c42
                    have H1 : (some 0) = some r := by rw [if_neg (show ¬ (false = true) by decide)] at H; exact H
                    clear H
                    have H := H1
                    clear H1
                    obtain rfl := Option.some.inj H
                    have p36 : 0 ≤ (0 : Int) := (by omega)
                    have q36 : 0 < a0.size := (by have : (0 : Int) < (a0.size : Int) := of_decide_eq_true (by first | (with_reducible assumption) | assumption); omega)
                    have hx36 : ∀ h : 0 < a0.size, ((a0[0]'h).toNat : Int) = bt a0 0 := bt_at a0 0
                    clear p36
                    have qi36 : (0 < (a0.size : Int)) = True := eq_true (of_decide_eq_true (by first | (with_reducible assumption) | assumption))
                    replace q36 := eq_true q36
                    have p40 : 0 ≤ (0 : Int) := (by omega)
                    have q40 : 0 < a0.size := (by have : (0 : Int) < (a0.size : Int) := of_decide_eq_true (by first | (with_reducible assumption) | assumption); omega)
                    have hx40 : ∀ h : 0 < a0.size, ((a0[0]'h).toNat : Int) = bt a0 0 := bt_at a0 0
                    clear p40
                    have qi40 : (0 < (a0.size : Int)) = True := eq_true (of_decide_eq_true (by first | (with_reducible assumption) | assumption))
                    replace q40 := eq_true q40
                    go_wp2_with (first | (go_at_call 69; (with_reducible refine (reredosref07_has.calls kj28 (⟨#[48, 49, 50, 51, 52, 53, 54, 55, 56, 57]⟩ : ByteArray) (bt a0 0) false _ A41.out).mono ?_); rintro e w' ⟨rfl, ⟨nd, rfl⟩⟩))
                    go_ret
                    exact ⟨by first | rfl | (simp; done) | (simp [*]; done), by repeat (first | exact Drawn0.refl _ | apply Drawn0.step)⟩
                 ·rw [if_neg c35] at H
                  exact absurd H (by simp)
end Go.Proofs.Ytdelccahgchadaa.P
end
section
namespace Go.Proofs.Ytdelccahgchadaa.P
open Go.RowKit Go.Proofs.YtdelccahgchadaaW.PrintWords Go.Proofs.YtdelccahgchadaaW.PrintLast Go.Proofs.YtdelccahgchadaaW.PrintMore
attribute [local go_sem] max2_int min2_int max_two min_two max_three min_three max_four min_four   
set_option linter.unusedVariables false
set_option linter.unusedSimpArgs false
def reredosref07_Number.j0 : Nat → ByteArray → ByteArray → Bool → Option (ByteArray × Bool)
 | 0, _, _, _ => none
 | k + 1, x0, x4, x12 => if x12 = true then (if 1 ≤ (x0.size : Int) then (if 1 + (x0.extract 1 x0.size).size ≤ 9223372036854775807 then (if x0.toList = ([] : List UInt8) then ((reredosref01_May.f k ((⟨#[45]⟩ : ByteArray) ++ (x0.extract 1 x0.size))).bind fun t285 => (if t285 = true then (some ((⟨#[45]⟩ : ByteArray) ++ (x0.extract 1 x0.size), true)) else (some ((⟨#[]⟩ : ByteArray), false)))) else (if 0 < (x0.size : Int) then (if (bt x0 0) = 45 then (some ((⟨#[]⟩ : ByteArray), false)) else ((reredosref01_May.f k ((⟨#[45]⟩ : ByteArray) ++ (x0.extract 1 x0.size))).bind fun t286 => (if t286 = true then (some ((⟨#[45]⟩ : ByteArray) ++ (x0.extract 1 x0.size), true)) else (some ((⟨#[]⟩ : ByteArray), false))))) else (none))) else (none)) else (none)) else (if x0.toList = ([] : List UInt8) then ((reredosref01_May.f k x4).bind fun t287 => (if t287 = true then (some (x4, true)) else (some ((⟨#[]⟩ : ByteArray), false)))) else (if 0 < (x0.size : Int) then (if (bt x0 0) = 45 then (some ((⟨#[]⟩ : ByteArray), false)) else ((reredosref01_May.f k x4).bind fun t288 => (if t288 = true then (some (x4, true)) else (some ((⟨#[]⟩ : ByteArray), false))))) else (none)))
def reredosref07_Number.f (k : Nat) (a0 : ByteArray) : Option (ByteArray × Bool) := if a0.toList = ([] : List UInt8) then (reredosref07_Number.j0 k a0 a0 false) else (if 0 < (a0.size : Int) then (reredosref07_Number.j0 k a0 a0 ((bt a0 0) == 95)) else (none))
theorem reredosref07_Number.mono_l : ∀ k, (∀ y0 y1 y2, LeO (reredosref07_Number.j0 k y0 y1 y2) (reredosref07_Number.j0 (k + 1) y0 y1 y2))
 | 0 => fun _ _ _ r h => by simp [reredosref07_Number.j0] at h
 | k + 1 => by
  have ih0 := reredosref07_Number.mono_l k
  ·intro y0 y1 y2
   unfold reredosref07_Number.j0
   repeat' first
   | (with_reducible exact ih0 _ _ _)
   | (with_reducible exact reredosref01_May.mono _ _)
   | (with_reducible exact LeO.refl _)
   | (with_reducible exact LeO.none _)
   | (with_reducible refine LeO.ite ?_ ?_)
   | (with_reducible refine LeO.bind ?_ (fun _ => ?_))
   | exact ih0 _ _ _
   | exact reredosref01_May.mono _ _
   | exact LeO.none _
   | refine LeO.ite ?_ ?_
   | refine LeO.bind ?_ (fun _ => ?_)
theorem reredosref07_Number.mono : ∀ a0 k, LeO (reredosref07_Number.f k a0) (reredosref07_Number.f (k + 1) a0) := by
 intro a0 k
 have ih0 := reredosref07_Number.mono_l k
 unfold reredosref07_Number.f
 repeat' first
   | (with_reducible exact ih0 _ _ _)
   | (with_reducible exact reredosref01_May.mono _ _)
   | (with_reducible exact LeO.refl _)
   | (with_reducible exact LeO.none _)
   | (with_reducible refine LeO.ite ?_ ?_)
   | (with_reducible refine LeO.bind ?_ (fun _ => ?_))
   | exact ih0 _ _ _
   | exact reredosref01_May.mono _ _
   | exact LeO.none _
   | refine LeO.ite ?_ ?_
   | refine LeO.bind ?_ (fun _ => ?_)
set_option maxHeartbeats 8000000 in
set_option maxRecDepth 100000 in
theorem reredosref07_Number.calls (k : Nat) (a0 : ByteArray) (r1 : ByteArray) (r2 : Bool) (w : World) (h : reredosref07_Number.f k a0 = some (r1, r2)) :
  Calls Try.prog 53 #[.string a0] w fun e w' => e = .returned (.tuple #[.string r1, .bool r2]) ∧ Drawn0 w w' := by
 have H : (if a0.toList = ([] : List UInt8) then (reredosref07_Number.j0 k a0 a0 false) else (if 0 < (a0.size : Int) then (reredosref07_Number.j0 k a0 a0 ((bt a0 0) == 95)) else (none))) = some (r1, r2) := h
 clear h
 have HC2 := am H
 clear H
 go_enter Try.func53, Try.ntmps53
 go_upto_region 2 with (fail)
 go_cut [12] (fun v12 wc => ∃ (kq : Nat) (x12_1 : Bool), v12 = .bool x12_1 ∧ Aside0 (reredosref07_Number.j0 kq a0 a0 x12_1 = some (r1, r2)) ∧ Aside0 (kq ≤ k) ∧ Drawn0 w wc)
 case first =>
  have H := HC2.out
  clear HC2
  by_cases c3 : a0.toList = ([] : List UInt8)
  ·rw [if_pos c3] at H
   have c3b0 : (a0.toList == ([] : List UInt8)) = true := beq_iff_eq.mpr c3
   have c3b1 : (a0.toList != ([] : List UInt8)) = false := bne_eq_false_iff_eq.mpr c3
   clear c3
   (first | rw [c3b0] | (simp only [i64_w, i32_w]; rw [c3b0]) | skip)
   have H' := am H
   clear H
   go_wp2
   go_meet
   case rel => exact ⟨_, (false), (by first | rfl | (simp; done) | (simp [*]; done)), H', ⟨by first | omega | exact Nat.le_refl _⟩, by repeat (first | exact Drawn0.refl _ | apply Drawn0.step)⟩
  ·rw [if_neg c3] at H
   have c3b0 : (a0.toList == ([] : List UInt8)) = false := beq_eq_false_iff_ne.mpr c3
   have c3b1 : (a0.toList != ([] : List UInt8)) = true := bne_iff_ne.mpr c3
   (first | rw [c3b0] | (simp only [i64_w, i32_w]; rw [c3b0]) | skip)
   by_cases c4 : 0 < (a0.size : Int)
   ·rw [if_pos c4] at H
    have c4b0 : decide (0 < (a0.size : Int)) = true := decide_eq_true c4
    have c4b1 : decide (0 < a0.size) = true := decide_eq_true (by omega)
    clear c4
    have H' := am H
    clear H
    have p5 : 0 ≤ (0 : Int) := (by omega)
    have q5 : 0 < a0.size := (by have : (0 : Int) < (a0.size : Int) := of_decide_eq_true (by first | (with_reducible assumption) | assumption); omega)
    have hx5 : ∀ h : 0 < a0.size, ((a0[0]'h).toNat : Int) = bt a0 0 := bt_at a0 0
    clear p5
    have qi5 : (0 < (a0.size : Int)) = True := eq_true (of_decide_eq_true (by first | (with_reducible assumption) | assumption))
    replace q5 := eq_true q5
    go_wp2
    go_meet
    case rel => exact ⟨_, (((bt a0 0) == 95)), (by first | rfl | (simp; done) | (simp [*]; done)), H', ⟨by first | omega | exact Nat.le_refl _⟩, by repeat (first | exact Drawn0.refl _ | apply Drawn0.step)⟩
   ·rw [if_neg c4] at H
    exact absurd H (by simp)
 case rest =>
  clear HC2
  try clear p2
  try clear c3
  try clear c3b0
  try clear c3b1
  try clear c4
  try clear c4b0
  try clear c4b1
  try clear c5
  try clear p5
  try clear q5
  try clear hx5
  try clear qi5
  try clear p5
  try clear q5
  obtain ⟨kq, x12_1, rfl, HA, HJ1, ⟨mc1, rfl⟩⟩ := hcut
  cases kq with
  | zero => exact absurd HA.out (by simp [reredosref07_Number.j0])
  | succ kj1 =>
   have H := HA.out
   clear HA
   simp only [reredosref07_Number.j0] at H
   by_cases c6 : x12_1 = true
   ·subst c6
    have H1 : (if 1 ≤ (a0.size : Int) then (if 1 + (a0.extract 1 a0.size).size ≤ 9223372036854775807 then (if a0.toList = ([] : List UInt8) then ((reredosref01_May.f kj1 ((⟨#[45]⟩ : ByteArray) ++ (a0.extract 1 a0.size))).bind fun t285 => (if t285 = true then (some ((⟨#[45]⟩ : ByteArray) ++ (a0.extract 1 a0.size), true)) else (some ((⟨#[]⟩ : ByteArray), false)))) else (if 0 < (a0.size : Int) then (if (bt a0 0) = 45 then (some ((⟨#[]⟩ : ByteArray), false)) else ((reredosref01_May.f kj1 ((⟨#[45]⟩ : ByteArray) ++ (a0.extract 1 a0.size))).bind fun t286 => (if t286 = true then (some ((⟨#[45]⟩ : ByteArray) ++ (a0.extract 1 a0.size), true)) else (some ((⟨#[]⟩ : ByteArray), false))))) else (none))) else (none)) else (none)) = some (r1, r2) := by rw [if_pos rfl] at H; exact H
    clear H
    have H := H1
    clear H1
    by_cases c7 : 1 ≤ (a0.size : Int)
    ·rw [if_pos c7] at H
     have c7b0 := eq_true c7
     have c7b1 : decide (1 ≤ (a0.size : Int)) = true := decide_eq_true c7
     clear c7
     by_cases c8 : 1 + (a0.extract 1 a0.size).size ≤ 9223372036854775807
     ·rw [if_pos c8] at H
      have c8b0 := eq_true c8
      have c8b1 : decide (1 + (a0.extract 1 a0.size).size ≤ 9223372036854775807) = true := decide_eq_true c8
      try have c8b2 : (9223372036854775807 < 1 + (a0.extract 1 a0.size).size) = False := eq_false (Nat.not_lt.2 c8)
      try (have c8b3 := c8b2; simp only [ByteArray.size_extract, Nat.min_self] at c8b3)
      by_cases c9 : a0.toList = ([] : List UInt8)
      ·rw [if_pos c9] at H
       have c9b0 : (a0.toList == ([] : List UInt8)) = true := beq_iff_eq.mpr c9
       have c9b1 : (a0.toList != ([] : List UInt8)) = false := bne_eq_false_iff_eq.mpr c9
       clear c9
       replace H := Option.bind_eq_some_iff.mp H
       obtain ⟨t285, A100, H⟩ := H
       replace H : (if t285 = true then (some ((⟨#[45]⟩ : ByteArray) ++ (a0.extract 1 a0.size), true)) else (some ((⟨#[]⟩ : ByteArray), false))) = some (r1, r2) := H
       have A10 := am A100
       clear A100
       by_cases c11 : t285 = true
       ·subst c11
        have H1 : (some ((⟨#[45]⟩ : ByteArray) ++ (a0.extract 1 a0.size), true)) = some (r1, r2) := by rw [if_pos rfl] at H; exact H
        clear H
        have H := H1
        clear H1
        simp only [Option.some.injEq, Prod.mk.injEq] at H
        obtain ⟨rfl, rfl⟩ := H
        go_wp2_with (first | (go_at_call 61; (with_reducible refine (reredosref01_May.calls kj1 ((⟨#[45]⟩ : ByteArray) ++ (a0.extract 1 a0.size)) true _ A10.out).mono ?_); rintro e w' ⟨rfl, ⟨nd, rfl⟩⟩))
        go_ret2
        exact ⟨by first | rfl | (simp; done) | (simp [*]; done), by repeat (first | exact Drawn0.refl _ | apply Drawn0.step)⟩
       ·replace c11 := Bool.eq_false_iff.mpr c11
        subst c11
        have H1 : (some ((⟨#[]⟩ : ByteArray), false)) = some (r1, r2) := by rw [if_neg (show ¬ (false = true) by decide)] at H; exact H
        clear H
        have H := H1
        clear H1
        simp only [Option.some.injEq, Prod.mk.injEq] at H
        obtain ⟨rfl, rfl⟩ := H
        go_wp2_with (first | (go_at_call 61; (with_reducible refine (reredosref01_May.calls kj1 ((⟨#[45]⟩ : ByteArray) ++ (a0.extract 1 a0.size)) false _ A10.out).mono ?_); rintro e w' ⟨rfl, ⟨nd, rfl⟩⟩))
        go_ret2
        exact ⟨by first | rfl | (simp; done) | (simp [*]; done), by repeat (first | exact Drawn0.refl _ | apply Drawn0.step)⟩
      ·rw [if_neg c9] at H
       have c9b0 : (a0.toList == ([] : List UInt8)) = false := beq_eq_false_iff_ne.mpr c9
       have c9b1 : (a0.toList != ([] : List UInt8)) = true := bne_iff_ne.mpr c9
       by_cases c12 : 0 < (a0.size : Int)
       ·rw [if_pos c12] at H
        have c12b0 : decide (0 < (a0.size : Int)) = true := decide_eq_true c12
        have c12b1 : decide (0 < a0.size) = true := decide_eq_true (by omega)
        clear c12
        by_cases c14 : (bt a0 0) = 45
        ·rw [if_pos c14] at H
         have c14b0 : ((bt a0 0) == 45) = true := beq_iff_eq.mpr c14
         have c14b1 : ((bt a0 0) != 45) = false := bne_eq_false_iff_eq.mpr c14
         clear c14
         simp only [Option.some.injEq, Prod.mk.injEq] at H
         obtain ⟨rfl, rfl⟩ := H
         have p13 : 0 ≤ (0 : Int) := (by omega)
         have q13 : 0 < a0.size := (by have : (0 : Int) < (a0.size : Int) := of_decide_eq_true (by first | (with_reducible assumption) | assumption); omega)
         have hx13 : ∀ h : 0 < a0.size, ((a0[0]'h).toNat : Int) = bt a0 0 := bt_at a0 0
         clear p13
         have qi13 : (0 < (a0.size : Int)) = True := eq_true (of_decide_eq_true (by first | (with_reducible assumption) | assumption))
         replace q13 := eq_true q13
         go_wp2
         go_ret2
         exact ⟨by first | rfl | (simp; done) | (simp [*]; done), by repeat (first | exact Drawn0.refl _ | apply Drawn0.step)⟩
        ·rw [if_neg c14] at H
         have c14b0 : ((bt a0 0) == 45) = false := beq_eq_false_iff_ne.mpr c14
         have c14b1 : ((bt a0 0) != 45) = true := bne_iff_ne.mpr c14
         replace H := Option.bind_eq_some_iff.mp H
         obtain ⟨t286, A150, H⟩ := H
         replace H : (if t286 = true then (some ((⟨#[45]⟩ : ByteArray) ++ (a0.extract 1 a0.size), true)) else (some ((⟨#[]⟩ : ByteArray), false))) = some (r1, r2) := H
         have A15 := am A150
         clear A150
         by_cases c16 : t286 = true
         ·subst c16
          have H1 : (some ((⟨#[45]⟩ : ByteArray) ++ (a0.extract 1 a0.size), true)) = some (r1, r2) := by rw [if_pos rfl] at H; exact H
          clear H
          have H := H1
          clear H1
          simp only [Option.some.injEq, Prod.mk.injEq] at H
          obtain ⟨rfl, rfl⟩ := H
          have p13 : 0 ≤ (0 : Int) := (by omega)
          have q13 : 0 < a0.size := (by have : (0 : Int) < (a0.size : Int) := of_decide_eq_true (by first | (with_reducible assumption) | assumption); omega)
          have hx13 : ∀ h : 0 < a0.size, ((a0[0]'h).toNat : Int) = bt a0 0 := bt_at a0 0
          clear p13
          have qi13 : (0 < (a0.size : Int)) = True := eq_true (of_decide_eq_true (by first | (with_reducible assumption) | assumption))
          replace q13 := eq_true q13
          go_wp2_with (first | (go_at_call 61; (with_reducible refine (reredosref01_May.calls kj1 ((⟨#[45]⟩ : ByteArray) ++ (a0.extract 1 a0.size)) true _ A15.out).mono ?_); rintro e w' ⟨rfl, ⟨nd, rfl⟩⟩))
          go_ret2
          exact ⟨by first | rfl | (simp; done) | (simp [*]; done), by repeat (first | exact Drawn0.refl _ | apply Drawn0.step)⟩
         ·replace c16 := Bool.eq_false_iff.mpr c16
          subst c16
          have H1 : (some ((⟨#[]⟩ : ByteArray), false)) = some (r1, r2) := by rw [if_neg (show ¬ (false = true) by decide)] at H; exact H
          clear H
          have H := H1
          clear H1
          simp only [Option.some.injEq, Prod.mk.injEq] at H
          obtain ⟨rfl, rfl⟩ := H
          have p13 : 0 ≤ (0 : Int) := (by omega)
          have q13 : 0 < a0.size := (by have : (0 : Int) < (a0.size : Int) := of_decide_eq_true (by first | (with_reducible assumption) | assumption); omega)
          have hx13 : ∀ h : 0 < a0.size, ((a0[0]'h).toNat : Int) = bt a0 0 := bt_at a0 0
          clear p13
          have qi13 : (0 < (a0.size : Int)) = True := eq_true (of_decide_eq_true (by first | (with_reducible assumption) | assumption))
          replace q13 := eq_true q13
          go_wp2_with (first | (go_at_call 61; (with_reducible refine (reredosref01_May.calls kj1 ((⟨#[45]⟩ : ByteArray) ++ (a0.extract 1 a0.size)) false _ A15.out).mono ?_); rintro e w' ⟨rfl, ⟨nd, rfl⟩⟩))
          go_ret2
          exact ⟨by first | rfl | (simp; done) | (simp [*]; done), by repeat (first | exact Drawn0.refl _ | apply Drawn0.step)⟩
       ·rw [if_neg c12] at H
        exact absurd H (by simp)
     ·rw [if_neg c8] at H
      exact absurd H (by simp)
    ·rw [if_neg c7] at H
     exact absurd H (by simp)
   ·replace c6 := Bool.eq_false_iff.mpr c6
    subst c6
    have H1 : (if a0.toList = ([] : List UInt8) then ((reredosref01_May.f kj1 a0).bind fun t287 => (if t287 = true then (some (a0, true)) else (some ((⟨#[]⟩ : ByteArray), false)))) else (if 0 < (a0.size : Int) then (if (bt a0 0) = 45 then (some ((⟨#[]⟩ : ByteArray), false)) else ((reredosref01_May.f kj1 a0).bind fun t288 => (if t288 = true then (some (a0, true)) else (some ((⟨#[]⟩ : ByteArray), false))))) else (none))) = some (r1, r2) := by rw [if_neg (show ¬ (false = true) by decide)] at H; exact H
    clear H
    have H := H1
    clear H1
    by_cases c17 : a0.toList = ([] : List UInt8)
    ·rw [if_pos c17] at H
     have c17b0 : (a0.toList == ([] : List UInt8)) = true := beq_iff_eq.mpr c17
     have c17b1 : (a0.toList != ([] : List UInt8)) = false := bne_eq_false_iff_eq.mpr c17
     clear c17
     replace H := Option.bind_eq_some_iff.mp H
     obtain ⟨t287, A180, H⟩ := H
     replace H : (if t287 = true then (some (a0, true)) else (some ((⟨#[]⟩ : ByteArray), false))) = some (r1, r2) := H
     have A18 := am A180
     clear A180
     by_cases c19 : t287 = true
     ·subst c19
      have H1 : (some (a0, true)) = some (r1, r2) := by rw [if_pos rfl] at H; exact H
      clear H
      have H := H1
      clear H1
      simp only [Option.some.injEq, Prod.mk.injEq] at H
      obtain ⟨rfl, rfl⟩ := H
      go_wp2_with (first | (go_at_call 61; (with_reducible refine (reredosref01_May.calls kj1 a0 true _ A18.out).mono ?_); rintro e w' ⟨rfl, ⟨nd, rfl⟩⟩))
      go_ret2
      exact ⟨by first | rfl | (simp; done) | (simp [*]; done), by repeat (first | exact Drawn0.refl _ | apply Drawn0.step)⟩
     ·replace c19 := Bool.eq_false_iff.mpr c19
      subst c19
      have H1 : (some ((⟨#[]⟩ : ByteArray), false)) = some (r1, r2) := by rw [if_neg (show ¬ (false = true) by decide)] at H; exact H
      clear H
      have H := H1
      clear H1
      simp only [Option.some.injEq, Prod.mk.injEq] at H
      obtain ⟨rfl, rfl⟩ := H
      go_wp2_with (first | (go_at_call 61; (with_reducible refine (reredosref01_May.calls kj1 a0 false _ A18.out).mono ?_); rintro e w' ⟨rfl, ⟨nd, rfl⟩⟩))
      go_ret2
      exact ⟨by first | rfl | (simp; done) | (simp [*]; done), by repeat (first | exact Drawn0.refl _ | apply Drawn0.step)⟩
    ·rw [if_neg c17] at H
     have c17b0 : (a0.toList == ([] : List UInt8)) = false := beq_eq_false_iff_ne.mpr c17
     have c17b1 : (a0.toList != ([] : List UInt8)) = true := bne_iff_ne.mpr c17
     by_cases c20 : 0 < (a0.size : Int)
     ·rw [if_pos c20] at H
      have c20b0 : decide (0 < (a0.size : Int)) = true := decide_eq_true c20
      have c20b1 : decide (0 < a0.size) = true := decide_eq_true (by omega)
      clear c20
      by_cases c22 : (bt a0 0) = 45
      ·rw [if_pos c22] at H
       have c22b0 : ((bt a0 0) == 45) = true := beq_iff_eq.mpr c22
       have c22b1 : ((bt a0 0) != 45) = false := bne_eq_false_iff_eq.mpr c22
       clear c22
       simp only [Option.some.injEq, Prod.mk.injEq] at H
       obtain ⟨rfl, rfl⟩ := H
       have p21 : 0 ≤ (0 : Int) := (by omega)
       have q21 : 0 < a0.size := (by have : (0 : Int) < (a0.size : Int) := of_decide_eq_true (by first | (with_reducible assumption) | assumption); omega)
       have hx21 : ∀ h : 0 < a0.size, ((a0[0]'h).toNat : Int) = bt a0 0 := bt_at a0 0
       clear p21
       have qi21 : (0 < (a0.size : Int)) = True := eq_true (of_decide_eq_true (by first | (with_reducible assumption) | assumption))
       replace q21 := eq_true q21
       go_wp2
       go_ret2
       exact ⟨by first | rfl | (simp; done) | (simp [*]; done), by repeat (first | exact Drawn0.refl _ | apply Drawn0.step)⟩
      ·rw [if_neg c22] at H
       have c22b0 : ((bt a0 0) == 45) = false := beq_eq_false_iff_ne.mpr c22
       have c22b1 : ((bt a0 0) != 45) = true := bne_iff_ne.mpr c22
       replace H := Option.bind_eq_some_iff.mp H
       obtain ⟨t288, A230, H⟩ := H
       replace H : (if t288 = true then (some (a0, true)) else (some ((⟨#[]⟩ : ByteArray), false))) = some (r1, r2) := H
       have A23 := am A230
       clear A230
       by_cases c24 : t288 = true
       ·subst c24
        have H1 : (some (a0, true)) = some (r1, r2) := by rw [if_pos rfl] at H; exact H
        clear H
        have H := H1
        clear H1
        simp only [Option.some.injEq, Prod.mk.injEq] at H
        obtain ⟨rfl, rfl⟩ := H
        have p21 : 0 ≤ (0 : Int) := (by omega)
        have q21 : 0 < a0.size := (by have : (0 : Int) < (a0.size : Int) := of_decide_eq_true (by first | (with_reducible assumption) | assumption); omega)
        have hx21 : ∀ h : 0 < a0.size, ((a0[0]'h).toNat : Int) = bt a0 0 := bt_at a0 0
        clear p21
        have qi21 : (0 < (a0.size : Int)) = True := eq_true (of_decide_eq_true (by first | (with_reducible assumption) | assumption))
        replace q21 := eq_true q21
        go_wp2_with (first | (go_at_call 61; (with_reducible refine (reredosref01_May.calls kj1 a0 true _ A23.out).mono ?_); rintro e w' ⟨rfl, ⟨nd, rfl⟩⟩))
        go_ret2
        exact ⟨by first | rfl | (simp; done) | (simp [*]; done), by repeat (first | exact Drawn0.refl _ | apply Drawn0.step)⟩
       ·replace c24 := Bool.eq_false_iff.mpr c24
        subst c24
        have H1 : (some ((⟨#[]⟩ : ByteArray), false)) = some (r1, r2) := by rw [if_neg (show ¬ (false = true) by decide)] at H; exact H
        clear H
        have H := H1
        clear H1
        simp only [Option.some.injEq, Prod.mk.injEq] at H
        obtain ⟨rfl, rfl⟩ := H
        have p21 : 0 ≤ (0 : Int) := (by omega)
        have q21 : 0 < a0.size := (by have : (0 : Int) < (a0.size : Int) := of_decide_eq_true (by first | (with_reducible assumption) | assumption); omega)
        have hx21 : ∀ h : 0 < a0.size, ((a0[0]'h).toNat : Int) = bt a0 0 := bt_at a0 0
        clear p21
        have qi21 : (0 < (a0.size : Int)) = True := eq_true (of_decide_eq_true (by first | (with_reducible assumption) | assumption))
        replace q21 := eq_true q21
        go_wp2_with (first | (go_at_call 61; (with_reducible refine (reredosref01_May.calls kj1 a0 false _ A23.out).mono ?_); rintro e w' ⟨rfl, ⟨nd, rfl⟩⟩))
        go_ret2
        exact ⟨by first | rfl | (simp; done) | (simp [*]; done), by repeat (first | exact Drawn0.refl _ | apply Drawn0.step)⟩
     ·rw [if_neg c20] at H
      exact absurd H (by simp)
end Go.Proofs.Ytdelccahgchadaa.P
end
section
namespace Go.Proofs.Ytdelccahgchadaa.P
open Go.RowKit Go.Proofs.YtdelccahgchadaaW.PrintWords Go.Proofs.YtdelccahgchadaaW.PrintLast Go.Proofs.YtdelccahgchadaaW.PrintMore
attribute [local go_sem] max2_int min2_int max_two min_two max_three min_three max_four min_four   
set_option linter.unusedVariables false
set_option linter.unusedSimpArgs false
mutual
def reredosref07_Lex.l0 : Nat → ByteArray → List (S71) → Int → Option ((List (S71)) × Int × Int)
 | 0, _, _, _ => none
 | k + 1, x0, x5, x6 => if x6 < (x0.size : Int) then (if 0 ≤ x6 then (if (bt x0 x6) = 32 then (reredosref07_Lex.l0 k x0 x5 (wrap64 (x6 + 1))) else (reredosref07_Lex.l1 k x0 x5 x6 0)) else (none)) else (some (x5, 0, 0))
def reredosref07_Lex.j2 : Nat → ByteArray → List (S71) → Int → Int → Option ((List (S71)) × Int × Int)
 | 0, _, _, _, _ => none
 | k + 1, x0, x5, x6, x7 => if 0 ≤ x6 then (if x6 ≤ (wrap64 (x6 + x7)) then (if (wrap64 (x6 + x7)) ≤ (x0.size : Int) then ((reredosref07_Number.f k (x0.extract (x6 : Int).toNat ((wrap64 (x6 + x7)) : Int).toNat)).bind fun bt290 => (if x7 = 0 then (some (([] : List (S71)), x6, 2)) else ((reredosref07_kind.f k (x0.extract (x6 : Int).toNat ((wrap64 (x6 + x7)) : Int).toNat)).bind fun t292 => (if t292 = 1 then (if bt290.2 = true then ((reredosref07_kind.f k (x0.extract (x6 : Int).toNat ((wrap64 (x6 + x7)) : Int).toNat)).bind fun t293 => (if x5.length < 4398046511104 then (reredosref07_Lex.l0 k x0 (x5 ++ [(⟨t293, x0.extract (x6 : Int).toNat ((wrap64 (x6 + x7)) : Int).toNat, x6⟩ : S71)]) (wrap64 (x6 + x7))) else (none))) else (some (([] : List (S71)), x6, 2))) else ((reredosref07_kind.f k (x0.extract (x6 : Int).toNat ((wrap64 (x6 + x7)) : Int).toNat)).bind fun t297 => (if x5.length < 4398046511104 then (reredosref07_Lex.l0 k x0 (x5 ++ [(⟨t297, x0.extract (x6 : Int).toNat ((wrap64 (x6 + x7)) : Int).toNat, x6⟩ : S71)]) (wrap64 (x6 + x7))) else (none))))))) else (none)) else (none)) else (none)
def reredosref07_Lex.l1 : Nat → ByteArray → List (S71) → Int → Int → Option ((List (S71)) × Int × Int)
 | 0, _, _, _, _ => none
 | k + 1, x0, x5, x6, x7 => if (wrap64 (x6 + x7)) < (x0.size : Int) then (if 0 ≤ x6 then (if x6 ≤ (wrap64 ((wrap64 (x6 + x7)) + 1)) then (if (wrap64 ((wrap64 (x6 + x7)) + 1)) ≤ (x0.size : Int) then ((reredosref07_kind.f k (x0.extract (x6 : Int).toNat ((wrap64 ((wrap64 (x6 + x7)) + 1)) : Int).toNat)).bind fun t289 => (if t289 > 0 then (reredosref07_Lex.l1 k x0 x5 x6 (wrap64 (x7 + 1))) else (reredosref07_Lex.j2 k x0 x5 x6 x7))) else (none)) else (none)) else (none)) else (reredosref07_Lex.j2 k x0 x5 x6 x7)
end
def reredosref07_Lex.f (k : Nat) (a0 : ByteArray) : Option ((List (S71)) × Int × Int) := if (a0.size : Int) > 256 then (some (([] : List (S71)), 0, 8)) else (reredosref07_Lex.l0 k a0 ([] : List (S71)) 0)
theorem reredosref07_Lex.mono_l : ∀ k, (∀ y0 y1 y2, LeO (reredosref07_Lex.l0 k y0 y1 y2) (reredosref07_Lex.l0 (k + 1) y0 y1 y2)) ∧ (∀ y0 y1 y2 y3, LeO (reredosref07_Lex.j2 k y0 y1 y2 y3) (reredosref07_Lex.j2 (k + 1) y0 y1 y2 y3)) ∧ (∀ y0 y1 y2 y3, LeO (reredosref07_Lex.l1 k y0 y1 y2 y3) (reredosref07_Lex.l1 (k + 1) y0 y1 y2 y3))
 | 0 => ⟨fun _ _ _ r h => by simp [reredosref07_Lex.l0] at h, fun _ _ _ _ r h => by simp [reredosref07_Lex.j2] at h, fun _ _ _ _ r h => by simp [reredosref07_Lex.l1] at h⟩
 | k + 1 => by
  obtain ⟨ih0, ih1, ih2⟩ := reredosref07_Lex.mono_l k
  refine ⟨?_, ?_, ?_⟩
  ·intro y0 y1 y2
   unfold reredosref07_Lex.l0
   repeat' first
   | (with_reducible exact ih0 _ _ _)
   | (with_reducible exact ih1 _ _ _ _)
   | (with_reducible exact ih2 _ _ _ _)
   | (with_reducible exact reredosref07_Number.mono _ _)
   | (with_reducible exact reredosref07_kind.mono _ _)
   | (with_reducible exact LeO.refl _)
   | (with_reducible exact LeO.none _)
   | (with_reducible refine LeO.ite ?_ ?_)
   | (with_reducible refine LeO.bind ?_ (fun _ => ?_))
   | exact ih0 _ _ _
   | exact ih1 _ _ _ _
   | exact ih2 _ _ _ _
   | exact reredosref07_Number.mono _ _
   | exact reredosref07_kind.mono _ _
   | exact LeO.none _
   | refine LeO.ite ?_ ?_
   | refine LeO.bind ?_ (fun _ => ?_)
  ·intro y0 y1 y2 y3
   unfold reredosref07_Lex.j2
   repeat' first
   | (with_reducible exact ih0 _ _ _)
   | (with_reducible exact ih1 _ _ _ _)
   | (with_reducible exact ih2 _ _ _ _)
   | (with_reducible exact reredosref07_Number.mono _ _)
   | (with_reducible exact reredosref07_kind.mono _ _)
   | (with_reducible exact LeO.refl _)
   | (with_reducible exact LeO.none _)
   | (with_reducible refine LeO.ite ?_ ?_)
   | (with_reducible refine LeO.bind ?_ (fun _ => ?_))
   | exact ih0 _ _ _
   | exact ih1 _ _ _ _
   | exact ih2 _ _ _ _
   | exact reredosref07_Number.mono _ _
   | exact reredosref07_kind.mono _ _
   | exact LeO.none _
   | refine LeO.ite ?_ ?_
   | refine LeO.bind ?_ (fun _ => ?_)
  ·intro y0 y1 y2 y3
   unfold reredosref07_Lex.l1
   repeat' first
   | (with_reducible exact ih0 _ _ _)
   | (with_reducible exact ih1 _ _ _ _)
   | (with_reducible exact ih2 _ _ _ _)
   | (with_reducible exact reredosref07_Number.mono _ _)
   | (with_reducible exact reredosref07_kind.mono _ _)
   | (with_reducible exact LeO.refl _)
   | (with_reducible exact LeO.none _)
   | (with_reducible refine LeO.ite ?_ ?_)
   | (with_reducible refine LeO.bind ?_ (fun _ => ?_))
   | exact ih0 _ _ _
   | exact ih1 _ _ _ _
   | exact ih2 _ _ _ _
   | exact reredosref07_Number.mono _ _
   | exact reredosref07_kind.mono _ _
   | exact LeO.none _
   | refine LeO.ite ?_ ?_
   | refine LeO.bind ?_ (fun _ => ?_)
theorem reredosref07_Lex.mono : ∀ a0 k, LeO (reredosref07_Lex.f k a0) (reredosref07_Lex.f (k + 1) a0) := by
 intro a0 k
 obtain ⟨ih0, ih1, ih2⟩ := reredosref07_Lex.mono_l k
 unfold reredosref07_Lex.f
 repeat' first
   | (with_reducible exact ih0 _ _ _)
   | (with_reducible exact ih1 _ _ _ _)
   | (with_reducible exact ih2 _ _ _ _)
   | (with_reducible exact reredosref07_Number.mono _ _)
   | (with_reducible exact reredosref07_kind.mono _ _)
   | (with_reducible exact LeO.refl _)
   | (with_reducible exact LeO.none _)
   | (with_reducible refine LeO.ite ?_ ?_)
   | (with_reducible refine LeO.bind ?_ (fun _ => ?_))
   | exact ih0 _ _ _
   | exact ih1 _ _ _ _
   | exact ih2 _ _ _ _
   | exact reredosref07_Number.mono _ _
   | exact reredosref07_kind.mono _ _
   | exact LeO.none _
   | refine LeO.ite ?_ ?_
   | refine LeO.bind ?_ (fun _ => ?_)
set_option maxHeartbeats 8000000 in
set_option maxRecDepth 100000 in
theorem reredosref07_Lex.calls (k : Nat) (a0 : ByteArray) (r1 : List (S71)) (r2 : Int) (r3 : Int) (w : World) (h : reredosref07_Lex.f k a0 = some (r1, r2, r3)) :
  Calls Try.prog 36 #[.string a0] w fun e w' => ∃ v0_ : Value, e = .returned (.tuple #[v0_, .int .i64 r2, .int .i64 r3]) ∧ Kd.R k71 71 w' w.heap.size (fun _ => True) v0_ r1 ∧ Below w.heap.size w w' := by
 have hu71 := Try.underlying71
 have HB := am (Below.refl w.heap.size w)
 have H : (if (a0.size : Int) > 256 then (some (([] : List (S71)), 0, 8)) else (reredosref07_Lex.l0 k a0 ([] : List (S71)) 0)) = some (r1, r2, r3) := h
 clear h
 by_cases c2 : (a0.size : Int) > 256
 ·rw [if_pos c2] at H
  have c2b0 : decide (256 < (a0.size : Int)) = true := decide_eq_true c2
  have c2b1 : decide (256 < a0.size) = true := decide_eq_true (by omega)
  clear c2
  simp only [Option.some.injEq, Prod.mk.injEq] at H
  obtain ⟨rfl, rfl, rfl⟩ := H
  go_enter Try.func36, Try.ntmps36
  go_wp2
  go_ret3
  exact ⟨_, by first | rfl | (simp [errW_none, errW_some] <;> rfl) | (simp [*, errW_none, errW_some] <;> rfl), by first | exact Kd.R_nil _ _ _ _ _ | exact Kd.N_nil _ _ _ _ _ | exact Kd.V_nil _ _ _ _ _ | exact Kd.Q_nil _ _ _ _ _ | exact Kd.S_nil _ _ _ _ _, by repeat (first | (with_reducible first | exact HB.out | apply lA | apply lN | apply lD) | exact HB.out)⟩
 ·rw [if_neg c2] at H
  have c2b0 : decide (256 < (a0.size : Int)) = false := decide_eq_false c2
  have c2b1 : decide (256 < a0.size) = false := decide_eq_false (by omega)
  clear c2
  have H' := am H
  clear H
  go_enter Try.func36, Try.ntmps36
  go_wp2
  go_loopg [5, 6] k (fun kq v5 v6 w' => ∃ (x5_1 : List (S71)) (x6_1 : Int), v6 = .int .i64 x6_1 ∧ Aside0 (reredosref07_Lex.l0 kq a0 x5_1 x6_1 = some (r1, r2, r3)) ∧ Aside0 (kq ≤ k) ∧ Aside0 (Kd.R k71 71 w' w.heap.size (fun _ => True) v5 x5_1) ∧ Aside0 (Below w.heap.size w w'))
  case atStart => exact ⟨(([] : List (S71))), (0), (by first | rfl | (simp; done) | (simp [*]; done)), H', ⟨Nat.le_refl _⟩, ⟨by first | exact Kd.R_nil _ _ _ _ _ | exact Kd.N_nil _ _ _ _ _ | exact Kd.V_nil _ _ _ _ _ | exact Kd.Q_nil _ _ _ _ _ | exact Kd.S_nil _ _ _ _ _⟩, ⟨by repeat (first | (with_reducible first | exact HB.out | apply lA | apply lN | apply lD) | exact HB.out)⟩⟩
  case round =>
   clear H'
   try clear c2
   try clear c2b0
   try clear c2b1
   try clear p2
   obtain ⟨x5_1, x6_1, rfl, HA, HK1, HO_5, HB⟩ := hrel
   cases gk with
   | zero => exact absurd HA.out (by simp [reredosref07_Lex.l0])
   | succ k1 =>
    have H := HA.out
    clear HA
    simp only [reredosref07_Lex.l0] at H
    by_cases c3 : x6_1 < (a0.size : Int)
    ·rw [if_pos c3] at H
     have c3b0 : decide (x6_1 < (a0.size : Int)) = true := decide_eq_true c3
     clear c3
     by_cases c4 : 0 ≤ x6_1
     ·rw [if_pos c4] at H
      have c4b0 : decide (0 ≤ x6_1) = true := decide_eq_true c4
      clear c4
      by_cases c6 : (bt a0 x6_1) = 32
      ·rw [if_pos c6] at H
       have c6b0 : ((bt a0 x6_1) == 32) = true := beq_iff_eq.mpr c6
       have c6b1 : ((bt a0 x6_1) != 32) = false := bne_eq_false_iff_eq.mpr c6
       clear c6
       have H' := am H
       clear H
       have p5 : 0 ≤ (x6_1 : Int) := of_decide_eq_true (by first | (with_reducible assumption) | assumption)
       have q5 : x6_1 < (a0.size : Int) := of_decide_eq_true (by first | (with_reducible assumption) | assumption)
       have hx5 := bt_at a0 x6_1
       replace p5 := eq_true p5
       replace q5 := eq_true q5
       go_wp2
       go_roundg k1
       case measure => have := HK1.out; omega
       case rel => exact ⟨(x5_1), (wrap64 (x6_1 + 1)), (by first | rfl | (simp; done) | (simp [*]; done)), H', ⟨by have := HK1.out; omega⟩, ⟨by (with_reducible repeat (first | apply Kd.R_alloc | apply Kd.R_drewN | apply Kd.R_drew)); exact HO_5.out⟩, ⟨by repeat (first | (with_reducible first | exact HB.out | apply lA | apply lN | apply lD) | exact HB.out)⟩⟩
      ·rw [if_neg c6] at H
       have c6b0 : ((bt a0 x6_1) == 32) = false := beq_eq_false_iff_ne.mpr c6
       have c6b1 : ((bt a0 x6_1) != 32) = true := bne_iff_ne.mpr c6
       have HC7 := am H
       clear H
       have p5 : 0 ≤ (x6_1 : Int) := of_decide_eq_true (by first | (with_reducible assumption) | assumption)
       have q5 : x6_1 < (a0.size : Int) := of_decide_eq_true (by first | (with_reducible assumption) | assumption)
       have hx5 := bt_at a0 x6_1
       replace p5 := eq_true p5
       replace q5 := eq_true q5
       go_upto_block 2 with (fail)
       go_cut [7] (fun v7 wc => ∃ (kq : Nat) (x7_6 : Int), v7 = .int .i64 x7_6 ∧ Aside0 (reredosref07_Lex.j2 kq a0 x5_1 x6_1 x7_6 = some (r1, r2, r3)) ∧ Aside0 (kq ≤ k1) ∧ Aside0 (Kd.R k71 71 wc w.heap.size (fun _ => True) u5 x5_1) ∧ Aside0 (Below w.heap.size w wc))
       case first =>
        have H := HC7.out
        clear HC7
        have H' := am H
        clear H
        go_wp2
        go_loopg [7] k1 (fun kq v7 w' => ∃ (x7_2 : Int), v7 = .int .i64 x7_2 ∧ Aside0 (reredosref07_Lex.l1 kq a0 x5_1 x6_1 x7_2 = some (r1, r2, r3)) ∧ Aside0 (kq ≤ k1) ∧ Aside0 (Kd.R k71 71 w' w.heap.size (fun _ => True) u5 x5_1) ∧ Aside0 (Below w.heap.size w w'))
        case atStart => exact ⟨(0), (by first | rfl | (simp; done) | (simp [*]; done)), H', ⟨Nat.le_refl _⟩, ⟨by (with_reducible repeat (first | apply Kd.R_alloc | apply Kd.R_drewN | apply Kd.R_drew)); exact HO_5.out⟩, ⟨by repeat (first | (with_reducible first | exact HB.out | apply lA | apply lN | apply lD) | exact HB.out)⟩⟩
        case round =>
         clear H'
         try clear c2
         try clear c2b0
         try clear c2b1
         try clear p2
         try clear c3
         try clear c3b0
         try clear c4
         try clear c4b0
         try clear p5
         try clear q5
         try clear hx5
         try clear c6
         try clear c6b0
         try clear c6b1
         try clear p6
         try clear p2
         try clear p5
         try clear q5
         obtain ⟨x7_2, rfl, HA, HK2, HO_5, HB⟩ := hrel
         cases gk with
         | zero => exact absurd HA.out (by simp [reredosref07_Lex.l1])
         | succ k2 =>
          have H := HA.out
          clear HA
          simp only [reredosref07_Lex.l1] at H
          by_cases c8 : (wrap64 (x6_1 + x7_2)) < (a0.size : Int)
          ·rw [if_pos c8] at H
           have c8b0 : decide ((wrap64 (x6_1 + x7_2)) < (a0.size : Int)) = true := decide_eq_true c8
           clear c8
           (first | rw [c8b0] | (simp only [i64_w, i32_w]; rw [c8b0]) | skip)
           by_cases c9 : 0 ≤ x6_1
           ·rw [if_pos c9] at H
            have c9b0 := eq_true c9
            have c9b1 : decide (0 ≤ x6_1) = true := decide_eq_true c9
            clear c9
            by_cases c10 : x6_1 ≤ (wrap64 ((wrap64 (x6_1 + x7_2)) + 1))
            ·rw [if_pos c10] at H
             have c10b0 := eq_true c10
             have c10b1 : decide (x6_1 ≤ (wrap64 ((wrap64 (x6_1 + x7_2)) + 1))) = true := decide_eq_true c10
             by_cases c11 : (wrap64 ((wrap64 (x6_1 + x7_2)) + 1)) ≤ (a0.size : Int)
             ·rw [if_pos c11] at H
              have c11b0 := eq_true c11
              have c11b1 : decide ((wrap64 ((wrap64 (x6_1 + x7_2)) + 1)) ≤ (a0.size : Int)) = true := decide_eq_true c11
              replace H := Option.bind_eq_some_iff.mp H
              obtain ⟨t289, A120, H⟩ := H
              replace H : (if t289 > 0 then (reredosref07_Lex.l1 k2 a0 x5_1 x6_1 (wrap64 (x7_2 + 1))) else (reredosref07_Lex.j2 k2 a0 x5_1 x6_1 x7_2)) = some (r1, r2, r3) := H
              have A12 := am A120
              clear A120
              by_cases c13 : t289 > 0
              ·rw [if_pos c13] at H
               have c13b0 : decide (0 < t289) = true := decide_eq_true c13
               clear c13
               have H' := am H
               clear H
               go_wp2_with (first | (go_at_call 52; (with_reducible refine (reredosref07_kind.calls k2 (a0.extract (x6_1 : Int).toNat ((wrap64 ((wrap64 (x6_1 + x7_2)) + 1)) : Int).toNat) t289 _ A12.out).mono ?_); rintro e w' ⟨rfl, ⟨nd, rfl⟩⟩))
               go_roundg k2
               case measure => have := HK1.out; have := HK2.out; omega
               case rel => exact ⟨(wrap64 (x7_2 + 1)), (by first | rfl | (simp; done) | (simp [*]; done)), H', ⟨by have := HK1.out; have := HK2.out; omega⟩, ⟨by (with_reducible repeat (first | apply Kd.R_alloc | apply Kd.R_drewN | apply Kd.R_drew)); exact HO_5.out⟩, ⟨by repeat (first | (with_reducible first | exact HB.out | apply lA | apply lN | apply lD) | exact HB.out)⟩⟩
              ·rw [if_neg c13] at H
               have c13b0 : decide (0 < t289) = false := decide_eq_false c13
               clear c13
               have H' := am H
               clear H
               go_wp2_with (first | (go_at_call 52; (with_reducible refine (reredosref07_kind.calls k2 (a0.extract (x6_1 : Int).toNat ((wrap64 ((wrap64 (x6_1 + x7_2)) + 1)) : Int).toNat) t289 _ A12.out).mono ?_); rintro e w' ⟨rfl, ⟨nd, rfl⟩⟩))
               go_meet
               case rel => exact ⟨_, (x7_2), (by first | rfl | (simp; done) | (simp [*]; done)), H', ⟨by have := HK1.out; have := HK2.out; first | omega | exact Nat.le_refl _⟩, ⟨by (with_reducible repeat (first | apply Kd.R_alloc | apply Kd.R_drewN | apply Kd.R_drew)); exact HO_5.out⟩, ⟨by repeat (first | (with_reducible first | exact HB.out | apply lA | apply lN | apply lD) | exact HB.out)⟩⟩
             ·rw [if_neg c11] at H
              exact absurd H (by simp)
            ·rw [if_neg c10] at H
             exact absurd H (by simp)
           ·rw [if_neg c9] at H
            exact absurd H (by simp)
          ·rw [if_neg c8] at H
           have c8b0 : decide ((wrap64 (x6_1 + x7_2)) < (a0.size : Int)) = false := decide_eq_false c8
           clear c8
           (first | rw [c8b0] | (simp only [i64_w, i32_w]; rw [c8b0]) | skip)
           have H' := am H
           clear H
           go_wp2
           go_meet
           case rel => exact ⟨_, (x7_2), (by first | rfl | (simp; done) | (simp [*]; done)), H', ⟨by have := HK1.out; have := HK2.out; first | omega | exact Nat.le_refl _⟩, ⟨by (with_reducible repeat (first | apply Kd.R_alloc | apply Kd.R_drewN | apply Kd.R_drew)); exact HO_5.out⟩, ⟨by repeat (first | (with_reducible first | exact HB.out | apply lA | apply lN | apply lD) | exact HB.out)⟩⟩
       case rest =>
        clear HC7
        try clear c1
        try clear c2
        try clear c2b0
        try clear c2b1
        try clear p2
        try clear c3
        try clear c3b0
        try clear c4
        try clear c4b0
        try clear p5
        try clear q5
        try clear hx5
        try clear c6
        try clear c6b0
        try clear c6b1
        try clear p6
        try clear c8
        try clear c8b0
        try clear c9
        try clear c9b0
        try clear c9b1
        try clear c10
        try clear c10b0
        try clear c10b1
        try clear c11
        try clear c11b0
        try clear c11b1
        try clear c13
        try clear c13b0
        try clear p2
        try clear p5
        try clear p6
        try clear q5
        obtain ⟨kq, x7_6, rfl, HA, HJ6, HO_5, HB⟩ := hcut
        cases kq with
        | zero => exact absurd HA.out (by simp [reredosref07_Lex.j2])
        | succ kj6 =>
         have H := HA.out
         clear HA
         simp only [reredosref07_Lex.j2] at H
         by_cases c14 : 0 ≤ x6_1
         ·rw [if_pos c14] at H
          have c14b0 := eq_true c14
          have c14b1 : decide (0 ≤ x6_1) = true := decide_eq_true c14
          clear c14
          by_cases c15 : x6_1 ≤ (wrap64 (x6_1 + x7_6))
          ·rw [if_pos c15] at H
           have c15b0 := eq_true c15
           have c15b1 : decide (x6_1 ≤ (wrap64 (x6_1 + x7_6))) = true := decide_eq_true c15
           by_cases c16 : (wrap64 (x6_1 + x7_6)) ≤ (a0.size : Int)
           ·rw [if_pos c16] at H
            have c16b0 := eq_true c16
            have c16b1 : decide ((wrap64 (x6_1 + x7_6)) ≤ (a0.size : Int)) = true := decide_eq_true c16
            replace H := Option.bind_eq_some_iff.mp H
            obtain ⟨⟨t290, t291⟩, A170, H⟩ := H
            replace H : (if x7_6 = 0 then (some (([] : List (S71)), x6_1, 2)) else ((reredosref07_kind.f kj6 (a0.extract (x6_1 : Int).toNat ((wrap64 (x6_1 + x7_6)) : Int).toNat)).bind fun t292 => (if t292 = 1 then (if t291 = true then ((reredosref07_kind.f kj6 (a0.extract (x6_1 : Int).toNat ((wrap64 (x6_1 + x7_6)) : Int).toNat)).bind fun t293 => (if x5_1.length < 4398046511104 then (reredosref07_Lex.l0 kj6 a0 (x5_1 ++ [(⟨t293, a0.extract (x6_1 : Int).toNat ((wrap64 (x6_1 + x7_6)) : Int).toNat, x6_1⟩ : S71)]) (wrap64 (x6_1 + x7_6))) else (none))) else (some (([] : List (S71)), x6_1, 2))) else ((reredosref07_kind.f kj6 (a0.extract (x6_1 : Int).toNat ((wrap64 (x6_1 + x7_6)) : Int).toNat)).bind fun t297 => (if x5_1.length < 4398046511104 then (reredosref07_Lex.l0 kj6 a0 (x5_1 ++ [(⟨t297, a0.extract (x6_1 : Int).toNat ((wrap64 (x6_1 + x7_6)) : Int).toNat, x6_1⟩ : S71)]) (wrap64 (x6_1 + x7_6))) else (none)))))) = some (r1, r2, r3) := H
            have A17 := am A170
            clear A170
            by_cases c18 : x7_6 = 0
            ·rw [if_pos c18] at H
             have c18b0 : (x7_6 == 0) = true := beq_iff_eq.mpr c18
             have c18b1 : (x7_6 != 0) = false := bne_eq_false_iff_eq.mpr c18
             clear c18
             simp only [Option.some.injEq, Prod.mk.injEq] at H
             obtain ⟨rfl, rfl, rfl⟩ := H
             go_wp2_with (first | ((with_reducible refine gate_callee (f := 53) rfl ?_); refine goesL_ (some 51) rfl rfl Try.func53 (by kernel_rfl) rfl #[.string (a0.extract (x6_1 : Int).toNat ((wrap64 (x6_1 + x7_6)) : Int).toNat)] rfl (by (try simp only [List.map_toArray, List.map_cons, List.map_nil]); first | done | rfl | (simp only [List.length_drop, List.length_take]; rfl)) ?_; (with_reducible refine (reredosref07_Number.calls kj6 (a0.extract (x6_1 : Int).toNat ((wrap64 (x6_1 + x7_6)) : Int).toNat) t290 t291 _ A17.out).mono ?_); rintro e w' ⟨rfl, ⟨nd, rfl⟩⟩; refine ⟨_, rfl, ?_⟩))
             go_ret3
             exact ⟨_, by first | rfl | (simp [errW_none, errW_some] <;> rfl) | (simp [*, errW_none, errW_some] <;> rfl), by first | exact Kd.R_nil _ _ _ _ _ | exact Kd.N_nil _ _ _ _ _ | exact Kd.V_nil _ _ _ _ _ | exact Kd.Q_nil _ _ _ _ _ | exact Kd.S_nil _ _ _ _ _, by repeat (first | (with_reducible first | exact HB.out | apply lA | apply lN | apply lD) | exact HB.out)⟩
            ·rw [if_neg c18] at H
             have c18b0 : (x7_6 == 0) = false := beq_eq_false_iff_ne.mpr c18
             have c18b1 : (x7_6 != 0) = true := bne_iff_ne.mpr c18
             replace H := Option.bind_eq_some_iff.mp H
             obtain ⟨t292, A190, H⟩ := H
             replace H : (if t292 = 1 then (if t291 = true then ((reredosref07_kind.f kj6 (a0.extract (x6_1 : Int).toNat ((wrap64 (x6_1 + x7_6)) : Int).toNat)).bind fun t293 => (if x5_1.length < 4398046511104 then (reredosref07_Lex.l0 kj6 a0 (x5_1 ++ [(⟨t293, a0.extract (x6_1 : Int).toNat ((wrap64 (x6_1 + x7_6)) : Int).toNat, x6_1⟩ : S71)]) (wrap64 (x6_1 + x7_6))) else (none))) else (some (([] : List (S71)), x6_1, 2))) else ((reredosref07_kind.f kj6 (a0.extract (x6_1 : Int).toNat ((wrap64 (x6_1 + x7_6)) : Int).toNat)).bind fun t297 => (if x5_1.length < 4398046511104 then (reredosref07_Lex.l0 kj6 a0 (x5_1 ++ [(⟨t297, a0.extract (x6_1 : Int).toNat ((wrap64 (x6_1 + x7_6)) : Int).toNat, x6_1⟩ : S71)]) (wrap64 (x6_1 + x7_6))) else (none)))) = some (r1, r2, r3) := H
             have A19 := am A190
             clear A190
             by_cases c20 : t292 = 1
             ·rw [if_pos c20] at H
              have c20b0 : (t292 == 1) = true := beq_iff_eq.mpr c20
              have c20b1 : (t292 != 1) = false := bne_eq_false_iff_eq.mpr c20
              clear c20
              by_cases c21 : t291 = true
              ·subst c21
               have H1 : ((reredosref07_kind.f kj6 (a0.extract (x6_1 : Int).toNat ((wrap64 (x6_1 + x7_6)) : Int).toNat)).bind fun t293 => (if x5_1.length < 4398046511104 then (reredosref07_Lex.l0 kj6 a0 (x5_1 ++ [(⟨t293, a0.extract (x6_1 : Int).toNat ((wrap64 (x6_1 + x7_6)) : Int).toNat, x6_1⟩ : S71)]) (wrap64 (x6_1 + x7_6))) else (none))) = some (r1, r2, r3) := by rw [if_pos rfl] at H; exact H
               clear H
               have H := H1
               clear H1
               replace H := Option.bind_eq_some_iff.mp H
               obtain ⟨t293, A220, H⟩ := H
               replace H : (if x5_1.length < 4398046511104 then (reredosref07_Lex.l0 kj6 a0 (x5_1 ++ [(⟨t293, a0.extract (x6_1 : Int).toNat ((wrap64 (x6_1 + x7_6)) : Int).toNat, x6_1⟩ : S71)]) (wrap64 (x6_1 + x7_6))) else (none)) = some (r1, r2, r3) := H
               have A22 := am A220
               clear A220
               by_cases c23 : x5_1.length < 4398046511104
               ·rw [if_pos c23] at H
                have LMc23 := am c23
                clear c23
                obtain ⟨y294, hy294⟩ : ∃ y_ : List (S71), y_ = (x5_1 ++ [(⟨t293, a0.extract (x6_1 : Int).toNat ((wrap64 (x6_1 + x7_6)) : Int).toNat, x6_1⟩ : S71)]) := ⟨_, rfl⟩
                replace H : (reredosref07_Lex.l0 kj6 a0 y294 (wrap64 (x6_1 + x7_6))) = some (r1, r2, r3) := by first | (rw [hy294]; with_reducible exact H) | (have H2_ := (Option.bind_some _ _).symm.trans H; rw [hy294]; with_reducible exact H2_) | (have H2_ := (Option.bind_some _ _).symm.trans H; with_reducible exact H2_) | with_reducible exact H | (rw [hy294]; exact H) | exact H
                have Ny294 := am hy294
                clear hy294
                have H' := am H
                clear H
                go_wp2_with (first | ((with_reducible refine gate_callee (f := 53) rfl ?_); refine goesL_ (some 51) rfl rfl Try.func53 (by kernel_rfl) rfl #[.string (a0.extract (x6_1 : Int).toNat ((wrap64 (x6_1 + x7_6)) : Int).toNat)] rfl (by (try simp only [List.map_toArray, List.map_cons, List.map_nil]); first | done | rfl | (simp only [List.length_drop, List.length_take]; rfl)) ?_; (with_reducible refine (reredosref07_Number.calls kj6 (a0.extract (x6_1 : Int).toNat ((wrap64 (x6_1 + x7_6)) : Int).toNat) t290 true _ A17.out).mono ?_); rintro e w' ⟨rfl, ⟨nd, rfl⟩⟩; refine ⟨_, rfl, ?_⟩) | (go_at_call 52; (with_reducible refine (reredosref07_kind.calls kj6 (a0.extract (x6_1 : Int).toNat ((wrap64 (x6_1 + x7_6)) : Int).toNat) t292 _ A19.out).mono ?_); rintro e w' ⟨rfl, ⟨nd, rfl⟩⟩) | ((with_reducible refine gate_callee (f := 52) rfl ?_); refine goesL_ (some 68) rfl rfl Try.func52 (by kernel_rfl) rfl #[.string (a0.extract (x6_1 : Int).toNat ((wrap64 (x6_1 + x7_6)) : Int).toNat)] rfl (by (try simp only [List.map_toArray, List.map_cons, List.map_nil]); first | done | rfl | (simp only [List.length_drop, List.length_take]; rfl)) ?_; (with_reducible refine (reredosref07_kind.calls kj6 (a0.extract (x6_1 : Int).toNat ((wrap64 (x6_1 + x7_6)) : Int).toNat) t293 _ A22.out).mono ?_); rintro e w' ⟨rfl, ⟨nd, rfl⟩⟩; refine ⟨_, rfl, ?_⟩) | ((with_reducible refine gate_builtin (b := .append) (xs := #[.tmp 66, .tmp 72]) rfl ?_); at_builtin; refine Kd.R_append k71 (w0 := w) w.heap.size rfl (.tmp 66) (.tmp 72) 46 71 (.agg #[(.int .i64 0), (.string ⟨#[]⟩), (.int .i64 0)]) 32 rfl Try.underlying46 info71 rfl (by decide) (by omega) u5 x5_1 (⟨t293, a0.extract (x6_1 : Int).toNat ((wrap64 (x6_1 + x7_6)) : Int).toNat, x6_1⟩ : S71) [.int .i64 t293, .string (a0.extract (x6_1 : Int).toNat ((wrap64 (x6_1 + x7_6)) : Int).toNat), .int .i64 x6_1] (fun _ => True) (fun _ => False) rfl rfl ?aP (fun _ hk => hk.elim) ?aF ?aO ?aB ?aS ?aL ?_; (case aP => exact k71_mkM _ _ _ (⟨t293, a0.extract (x6_1 : Int).toNat ((wrap64 (x6_1 + x7_6)) : Int).toNat, x6_1⟩ : S71)); (case aB => exact (by repeat (first | (with_reducible first | exact HB.out | apply lA | apply lN | apply lD) | exact HB.out))); (case aF => exact (fun _ _ => trivial)); (case aO => exact (by (with_reducible repeat (first | apply Kd.R_alloc | apply Kd.R_drewN | apply Kd.R_drew)); exact HO_5.out)); (case aS => exact (below_size (by repeat (first | (with_reducible first | exact HB.out | apply lA | apply lN | apply lD) | exact HB.out)))); (case aL => have := LMc23.out; omega); intro v295 w24 ho hb hg hat; rw [← Ny294.out] at ho; have n0_ := am (hb); have n1_ := am (ho); clear HB; clear HO_5; have HB := n0_; have HO296 := n1_; clear n0_ n1_; clear ho hb hg hat))
                go_roundg kj6
                case measure => have := HK1.out; have := HJ6.out; omega
                case rel => exact ⟨(y294), (wrap64 (x6_1 + x7_6)), (by first | rfl | (simp; done) | (simp [*]; done)), H', ⟨by have := HK1.out; have := HJ6.out; omega⟩, ⟨by (with_reducible repeat (first | apply Kd.R_alloc | apply Kd.R_drewN | apply Kd.R_drew)); exact HO296.out⟩, ⟨by repeat (first | (with_reducible first | exact HB.out | apply lA | apply lN | apply lD) | exact HB.out)⟩⟩
               ·rw [if_neg c23] at H
                exact absurd H (by simp)
              ·replace c21 := Bool.eq_false_iff.mpr c21
               subst c21
               have H1 : (some (([] : List (S71)), x6_1, 2)) = some (r1, r2, r3) := by rw [if_neg (show ¬ (false = true) by decide)] at H; exact H
               clear H
               have H := H1
               clear H1
               simp only [Option.some.injEq, Prod.mk.injEq] at H
               obtain ⟨rfl, rfl, rfl⟩ := H
               go_wp2_with (first | ((with_reducible refine gate_callee (f := 53) rfl ?_); refine goesL_ (some 51) rfl rfl Try.func53 (by kernel_rfl) rfl #[.string (a0.extract (x6_1 : Int).toNat ((wrap64 (x6_1 + x7_6)) : Int).toNat)] rfl (by (try simp only [List.map_toArray, List.map_cons, List.map_nil]); first | done | rfl | (simp only [List.length_drop, List.length_take]; rfl)) ?_; (with_reducible refine (reredosref07_Number.calls kj6 (a0.extract (x6_1 : Int).toNat ((wrap64 (x6_1 + x7_6)) : Int).toNat) t290 false _ A17.out).mono ?_); rintro e w' ⟨rfl, ⟨nd, rfl⟩⟩; refine ⟨_, rfl, ?_⟩) | (go_at_call 52; (with_reducible refine (reredosref07_kind.calls kj6 (a0.extract (x6_1 : Int).toNat ((wrap64 (x6_1 + x7_6)) : Int).toNat) t292 _ A19.out).mono ?_); rintro e w' ⟨rfl, ⟨nd, rfl⟩⟩))
               go_ret3
               exact ⟨_, by first | rfl | (simp [errW_none, errW_some] <;> rfl) | (simp [*, errW_none, errW_some] <;> rfl), by first | exact Kd.R_nil _ _ _ _ _ | exact Kd.N_nil _ _ _ _ _ | exact Kd.V_nil _ _ _ _ _ | exact Kd.Q_nil _ _ _ _ _ | exact Kd.S_nil _ _ _ _ _, by repeat (first | (with_reducible first | exact HB.out | apply lA | apply lN | apply lD) | exact HB.out)⟩
             ·rw [if_neg c20] at H
              have c20b0 : (t292 == 1) = false := beq_eq_false_iff_ne.mpr c20
              have c20b1 : (t292 != 1) = true := bne_iff_ne.mpr c20
              replace H := Option.bind_eq_some_iff.mp H
              obtain ⟨t297, A250, H⟩ := H
              replace H : (if x5_1.length < 4398046511104 then (reredosref07_Lex.l0 kj6 a0 (x5_1 ++ [(⟨t297, a0.extract (x6_1 : Int).toNat ((wrap64 (x6_1 + x7_6)) : Int).toNat, x6_1⟩ : S71)]) (wrap64 (x6_1 + x7_6))) else (none)) = some (r1, r2, r3) := H
              have A25 := am A250
              clear A250
              by_cases c26 : x5_1.length < 4398046511104
              ·rw [if_pos c26] at H
               have LMc26 := am c26
               clear c26
               obtain ⟨y298, hy298⟩ : ∃ y_ : List (S71), y_ = (x5_1 ++ [(⟨t297, a0.extract (x6_1 : Int).toNat ((wrap64 (x6_1 + x7_6)) : Int).toNat, x6_1⟩ : S71)]) := ⟨_, rfl⟩
               replace H : (reredosref07_Lex.l0 kj6 a0 y298 (wrap64 (x6_1 + x7_6))) = some (r1, r2, r3) := by first | (rw [hy298]; with_reducible exact H) | (have H2_ := (Option.bind_some _ _).symm.trans H; rw [hy298]; with_reducible exact H2_) | (have H2_ := (Option.bind_some _ _).symm.trans H; with_reducible exact H2_) | with_reducible exact H | (rw [hy298]; exact H) | exact H
               have Ny298 := am hy298
               clear hy298
               have H' := am H
               clear H
               go_wp2_with (first | ((with_reducible refine gate_callee (f := 53) rfl ?_); refine goesL_ (some 51) rfl rfl Try.func53 (by kernel_rfl) rfl #[.string (a0.extract (x6_1 : Int).toNat ((wrap64 (x6_1 + x7_6)) : Int).toNat)] rfl (by (try simp only [List.map_toArray, List.map_cons, List.map_nil]); first | done | rfl | (simp only [List.length_drop, List.length_take]; rfl)) ?_; (with_reducible refine (reredosref07_Number.calls kj6 (a0.extract (x6_1 : Int).toNat ((wrap64 (x6_1 + x7_6)) : Int).toNat) t290 t291 _ A17.out).mono ?_); rintro e w' ⟨rfl, ⟨nd, rfl⟩⟩; refine ⟨_, rfl, ?_⟩) | (go_at_call 52; (with_reducible refine (reredosref07_kind.calls kj6 (a0.extract (x6_1 : Int).toNat ((wrap64 (x6_1 + x7_6)) : Int).toNat) t292 _ A19.out).mono ?_); rintro e w' ⟨rfl, ⟨nd, rfl⟩⟩) | ((with_reducible refine gate_callee (f := 52) rfl ?_); refine goesL_ (some 68) rfl rfl Try.func52 (by kernel_rfl) rfl #[.string (a0.extract (x6_1 : Int).toNat ((wrap64 (x6_1 + x7_6)) : Int).toNat)] rfl (by (try simp only [List.map_toArray, List.map_cons, List.map_nil]); first | done | rfl | (simp only [List.length_drop, List.length_take]; rfl)) ?_; (with_reducible refine (reredosref07_kind.calls kj6 (a0.extract (x6_1 : Int).toNat ((wrap64 (x6_1 + x7_6)) : Int).toNat) t297 _ A25.out).mono ?_); rintro e w' ⟨rfl, ⟨nd, rfl⟩⟩; refine ⟨_, rfl, ?_⟩) | ((with_reducible refine gate_builtin (b := .append) (xs := #[.tmp 66, .tmp 72]) rfl ?_); at_builtin; refine Kd.R_append k71 (w0 := w) w.heap.size rfl (.tmp 66) (.tmp 72) 46 71 (.agg #[(.int .i64 0), (.string ⟨#[]⟩), (.int .i64 0)]) 32 rfl Try.underlying46 info71 rfl (by decide) (by omega) u5 x5_1 (⟨t297, a0.extract (x6_1 : Int).toNat ((wrap64 (x6_1 + x7_6)) : Int).toNat, x6_1⟩ : S71) [.int .i64 t297, .string (a0.extract (x6_1 : Int).toNat ((wrap64 (x6_1 + x7_6)) : Int).toNat), .int .i64 x6_1] (fun _ => True) (fun _ => False) rfl rfl ?aP (fun _ hk => hk.elim) ?aF ?aO ?aB ?aS ?aL ?_; (case aP => exact k71_mkM _ _ _ (⟨t297, a0.extract (x6_1 : Int).toNat ((wrap64 (x6_1 + x7_6)) : Int).toNat, x6_1⟩ : S71)); (case aB => exact (by repeat (first | (with_reducible first | exact HB.out | apply lA | apply lN | apply lD) | exact HB.out))); (case aF => exact (fun _ _ => trivial)); (case aO => exact (by (with_reducible repeat (first | apply Kd.R_alloc | apply Kd.R_drewN | apply Kd.R_drew)); exact HO_5.out)); (case aS => exact (below_size (by repeat (first | (with_reducible first | exact HB.out | apply lA | apply lN | apply lD) | exact HB.out)))); (case aL => have := LMc26.out; omega); intro v299 w27 ho hb hg hat; rw [← Ny298.out] at ho; have n0_ := am (hb); have n1_ := am (ho); clear HB; clear HO_5; have HB := n0_; have HO300 := n1_; clear n0_ n1_; clear ho hb hg hat))
               go_roundg kj6
               case measure => have := HK1.out; have := HJ6.out; omega
               case rel => exact ⟨(y298), (wrap64 (x6_1 + x7_6)), (by first | rfl | (simp; done) | (simp [*]; done)), H', ⟨by have := HK1.out; have := HJ6.out; omega⟩, ⟨by (with_reducible repeat (first | apply Kd.R_alloc | apply Kd.R_drewN | apply Kd.R_drew)); exact HO300.out⟩, ⟨by repeat (first | (with_reducible first | exact HB.out | apply lA | apply lN | apply lD) | exact HB.out)⟩⟩
              ·rw [if_neg c26] at H
               exact absurd H (by simp)
           ·rw [if_neg c16] at H
            exact absurd H (by simp)
          ·rw [if_neg c15] at H
           exact absurd H (by simp)
         ·rw [if_neg c14] at H
          exact absurd H (by simp)
     ·rw [if_neg c4] at H
      exact absurd H (by simp)
    ·rw [if_neg c3] at H
     have c3b0 : decide (x6_1 < (a0.size : Int)) = false := decide_eq_false c3
     clear c3
     simp only [Option.some.injEq, Prod.mk.injEq] at H
     obtain ⟨rfl, rfl, rfl⟩ := H
     go_wp2
     go_ret3
     exact ⟨_, by first | rfl | (simp [errW_none, errW_some] <;> rfl) | (simp [*, errW_none, errW_some] <;> rfl), by (with_reducible repeat (first | apply Kd.R_alloc | apply Kd.R_drewN | apply Kd.R_drew)); exact HO_5.out, by repeat (first | (with_reducible first | exact HB.out | apply lA | apply lN | apply lD) | exact HB.out)⟩
end Go.Proofs.Ytdelccahgchadaa.P
end
section
namespace Go.Proofs.Ytdelccahgchadaa.P
open Go.RowKit Go.Proofs.YtdelccahgchadaaW.PrintWords Go.Proofs.YtdelccahgchadaaW.PrintLast Go.Proofs.YtdelccahgchadaaW.PrintMore
attribute [local go_sem] max2_int min2_int max_two min_two max_three min_three max_four min_four   
set_option linter.unusedVariables false
set_option linter.unusedSimpArgs false
def reredosref08_part.f (k : Nat) (a0 : ByteArray) (a1 : Int) : Option (Bool) := (reredosref07_Lex.f k a0).bind fun bt301 => (if bt301.2.2 = 0 then (if (bt301.1.length : Int) = 1 then (if 0 < (bt301.1.length : Int) then (if ((rd_T71 bt301.1 0).f0) = a1 then (some (((rd_T71 bt301.1 0).f1).toList == a0.toList)) else (some false)) else (none)) else (some false)) else (some false))
theorem reredosref08_part.mono : ∀ a0 a1 k, LeO (reredosref08_part.f k a0 a1) (reredosref08_part.f (k + 1) a0 a1) := by
 intro a0 a1 k
 unfold reredosref08_part.f
 repeat' first
   | (with_reducible exact reredosref07_Lex.mono _ _)
   | (with_reducible exact LeO.refl _)
   | (with_reducible exact LeO.none _)
   | (with_reducible refine LeO.ite ?_ ?_)
   | (with_reducible refine LeO.bind ?_ (fun _ => ?_))
   | exact reredosref07_Lex.mono _ _
   | exact LeO.none _
   | refine LeO.ite ?_ ?_
   | refine LeO.bind ?_ (fun _ => ?_)
set_option maxHeartbeats 8000000 in
set_option maxRecDepth 100000 in
theorem reredosref08_part.calls (k : Nat) (a0 : ByteArray) (a1 : Int) (r : Bool) (w : World) (h : reredosref08_part.f k a0 a1 = some r) :
  Calls Try.prog 62 #[.string a0, .int .i64 a1] w fun e w' => e = .returned (.bool r) ∧ Below w.heap.size w w' := by
 have HB := am (Below.refl w.heap.size w)
 have H : ((reredosref07_Lex.f k a0).bind fun bt301 => (if bt301.2.2 = 0 then (if (bt301.1.length : Int) = 1 then (if 0 < (bt301.1.length : Int) then (if ((rd_T71 bt301.1 0).f0) = a1 then (some (((rd_T71 bt301.1 0).f1).toList == a0.toList)) else (some false)) else (none)) else (some false)) else (some false))) = some r := h
 clear h
 replace H := Option.bind_eq_some_iff.mp H
 obtain ⟨⟨t301, t302, t303⟩, A30, H⟩ := H
 replace H : (if t303 = 0 then (if (t301.length : Int) = 1 then (if 0 < (t301.length : Int) then (if ((rd_T71 t301 0).f0) = a1 then (some (((rd_T71 t301 0).f1).toList == a0.toList)) else (some false)) else (none)) else (some false)) else (some false)) = some r := H
 have A3 := am A30
 clear A30
 by_cases c4 : t303 = 0
 ·rw [if_pos c4] at H
  have c4b0 : (t303 == 0) = true := beq_iff_eq.mpr c4
  have c4b1 : (t303 != 0) = false := bne_eq_false_iff_eq.mpr c4
  clear c4
  by_cases c5 : (t301.length : Int) = 1
  ·rw [if_pos c5] at H
   have c5b0 : ((t301.length : Int) == 1) = true := beq_iff_eq.mpr c5
   have c5b1 : ((t301.length : Int) != 1) = false := bne_eq_false_iff_eq.mpr c5
   clear c5
   by_cases c6 : 0 < (t301.length : Int)
   ·rw [if_pos c6] at H
    have c6b0 : decide (0 < (t301.length : Int)) = true := decide_eq_true c6
    have c6b1 : decide (0 < t301.length) = true := decide_eq_true (by omega)
    clear c6
    by_cases c7 : ((rd_T71 t301 0).f0) = a1
    ·rw [if_pos c7] at H
     have c7b0 : (((rd_T71 t301 0).f0) == a1) = true := beq_iff_eq.mpr c7
     have c7b1 : (((rd_T71 t301 0).f0) != a1) = false := bne_eq_false_iff_eq.mpr c7
     clear c7
     obtain rfl := Option.some.inj H
     go_enter Try.func62, Try.ntmps62
     go_wp2_with (first | ((with_reducible refine gate_callee (f := 36) rfl ?_); refine goesL_ (some 10) rfl rfl Try.func36 (by kernel_rfl) rfl #[.string a0] rfl (by (try simp only [List.map_toArray, List.map_cons, List.map_nil]); first | done | rfl | (simp only [List.length_drop, List.length_take]; rfl)) ?_; (with_reducible refine (reredosref07_Lex.calls k a0 t301 t302 t303 _ A3.out).mono ?_); rintro e w8 ⟨v304, rfl, ho0, hb⟩; refine ⟨_, rfl, ?_⟩; have n0_ := am (Kd.R_lower ho0 (below_size (by repeat (first | (with_reducible first | exact HB.out | apply lA | apply lN | apply lD) | exact HB.out)))); have n1_ := am (below_step (by repeat (first | (with_reducible first | exact HB.out | apply lA | apply lN | apply lD) | exact HB.out)) hb); clear HB; have HO305 := n0_; have HB := n1_; clear n0_ n1_; (try clear hb); (try clear hb2); (try clear hk); (try clear hi); (try clear ho0); obtain ⟨Ao9, co9, eo9⟩ := Kd.R_slice HO305.out; subst eo9; have p306 : 0 ≤ (0 : Int) := (by omega); have q306 : 0 < (t301.length : Int) := of_decide_eq_true (by first | (with_reducible assumption) | assumption); obtain ⟨ad306, e306, hx306_0, hx306_1, hx306_2⟩ := at_T71 (Kd.R_reads' HO305.out).2.2 0 p306 q306; cases e306; have qi306 : (0 < t301.length) = True := eq_true (by omega); (try rw [show ((0 : Int)).toNat = 0 from rfl] at hx306_0); (try rw [show 0 * 3 = 0 from rfl] at hx306_0); (try rw [Addr.add_zero'] at hx306_0); (try rw [show ((0 : Int)).toNat = 0 from rfl] at hx306_1); (try rw [show 0 * 3 = 0 from rfl] at hx306_1); (try rw [Addr.add_zero'] at hx306_1); (try rw [show ((0 : Int)).toNat = 0 from rfl] at hx306_2); (try rw [show 0 * 3 = 0 from rfl] at hx306_2); (try rw [Addr.add_zero'] at hx306_2); replace p306 := eq_true p306; replace q306 := eq_true q306; have p307 : 0 ≤ (0 : Int) := (by omega); have q307 : 0 < (t301.length : Int) := of_decide_eq_true (by first | (with_reducible assumption) | assumption); obtain ⟨ad307, e307, hx307_0, hx307_1, hx307_2⟩ := at_T71 (Kd.R_reads' HO305.out).2.2 0 p307 q307; obtain rfl : ad306 = ad307 := (by injection e307); have qi307 : (0 < t301.length) = True := eq_true (by omega); (try rw [show ((0 : Int)).toNat = 0 from rfl] at hx307_0); (try rw [show 0 * 3 = 0 from rfl] at hx307_0); (try rw [Addr.add_zero'] at hx307_0); (try rw [show ((0 : Int)).toNat = 0 from rfl] at hx307_1); (try rw [show 0 * 3 = 0 from rfl] at hx307_1); (try rw [Addr.add_zero'] at hx307_1); (try rw [show ((0 : Int)).toNat = 0 from rfl] at hx307_2); (try rw [show 0 * 3 = 0 from rfl] at hx307_2); (try rw [Addr.add_zero'] at hx307_2); replace p307 := eq_true p307; replace q307 := eq_true q307))
     go_ret
     exact ⟨by first | rfl | (simp [errW_none, errW_some] <;> rfl) | (simp [*, errW_none, errW_some] <;> rfl), by repeat (first | (with_reducible first | exact HB.out | apply lA | apply lN | apply lD) | exact HB.out)⟩
    ·rw [if_neg c7] at H
     have c7b0 : (((rd_T71 t301 0).f0) == a1) = false := beq_eq_false_iff_ne.mpr c7
     have c7b1 : (((rd_T71 t301 0).f0) != a1) = true := bne_iff_ne.mpr c7
     obtain rfl := Option.some.inj H
     go_enter Try.func62, Try.ntmps62
     go_wp2_with (first | ((with_reducible refine gate_callee (f := 36) rfl ?_); refine goesL_ (some 10) rfl rfl Try.func36 (by kernel_rfl) rfl #[.string a0] rfl (by (try simp only [List.map_toArray, List.map_cons, List.map_nil]); first | done | rfl | (simp only [List.length_drop, List.length_take]; rfl)) ?_; (with_reducible refine (reredosref07_Lex.calls k a0 t301 t302 t303 _ A3.out).mono ?_); rintro e w10 ⟨v304, rfl, ho0, hb⟩; refine ⟨_, rfl, ?_⟩; have n0_ := am (Kd.R_lower ho0 (below_size (by repeat (first | (with_reducible first | exact HB.out | apply lA | apply lN | apply lD) | exact HB.out)))); have n1_ := am (below_step (by repeat (first | (with_reducible first | exact HB.out | apply lA | apply lN | apply lD) | exact HB.out)) hb); clear HB; have HO305 := n0_; have HB := n1_; clear n0_ n1_; (try clear hb); (try clear hb2); (try clear hk); (try clear hi); (try clear ho0); obtain ⟨Ao11, co11, eo11⟩ := Kd.R_slice HO305.out; subst eo11; have p306 : 0 ≤ (0 : Int) := (by omega); have q306 : 0 < (t301.length : Int) := of_decide_eq_true (by first | (with_reducible assumption) | assumption); obtain ⟨ad306, e306, hx306_0, hx306_1, hx306_2⟩ := at_T71 (Kd.R_reads' HO305.out).2.2 0 p306 q306; cases e306; have qi306 : (0 < t301.length) = True := eq_true (by omega); (try rw [show ((0 : Int)).toNat = 0 from rfl] at hx306_0); (try rw [show 0 * 3 = 0 from rfl] at hx306_0); (try rw [Addr.add_zero'] at hx306_0); (try rw [show ((0 : Int)).toNat = 0 from rfl] at hx306_1); (try rw [show 0 * 3 = 0 from rfl] at hx306_1); (try rw [Addr.add_zero'] at hx306_1); (try rw [show ((0 : Int)).toNat = 0 from rfl] at hx306_2); (try rw [show 0 * 3 = 0 from rfl] at hx306_2); (try rw [Addr.add_zero'] at hx306_2); replace p306 := eq_true p306; replace q306 := eq_true q306))
     go_ret
     exact ⟨by first | rfl | (simp [errW_none, errW_some] <;> rfl) | (simp [*, errW_none, errW_some] <;> rfl), by repeat (first | (with_reducible first | exact HB.out | apply lA | apply lN | apply lD) | exact HB.out)⟩
   ·rw [if_neg c6] at H
    exact absurd H (by simp)
  ·rw [if_neg c5] at H
   have c5b0 : ((t301.length : Int) == 1) = false := beq_eq_false_iff_ne.mpr c5
   have c5b1 : ((t301.length : Int) != 1) = true := bne_iff_ne.mpr c5
   obtain rfl := Option.some.inj H
   go_enter Try.func62, Try.ntmps62
   go_wp2_with (first | ((with_reducible refine gate_callee (f := 36) rfl ?_); refine goesL_ (some 10) rfl rfl Try.func36 (by kernel_rfl) rfl #[.string a0] rfl (by (try simp only [List.map_toArray, List.map_cons, List.map_nil]); first | done | rfl | (simp only [List.length_drop, List.length_take]; rfl)) ?_; (with_reducible refine (reredosref07_Lex.calls k a0 t301 t302 t303 _ A3.out).mono ?_); rintro e w12 ⟨v304, rfl, ho0, hb⟩; refine ⟨_, rfl, ?_⟩; have n0_ := am (Kd.R_lower ho0 (below_size (by repeat (first | (with_reducible first | exact HB.out | apply lA | apply lN | apply lD) | exact HB.out)))); have n1_ := am (below_step (by repeat (first | (with_reducible first | exact HB.out | apply lA | apply lN | apply lD) | exact HB.out)) hb); clear HB; have HO305 := n0_; have HB := n1_; clear n0_ n1_; (try clear hb); (try clear hb2); (try clear hk); (try clear hi); (try clear ho0); obtain ⟨Ao13, co13, eo13⟩ := Kd.R_slice HO305.out; subst eo13))
   go_ret
   exact ⟨by first | rfl | (simp [errW_none, errW_some] <;> rfl) | (simp [*, errW_none, errW_some] <;> rfl), by repeat (first | (with_reducible first | exact HB.out | apply lA | apply lN | apply lD) | exact HB.out)⟩
 ·rw [if_neg c4] at H
  have c4b0 : (t303 == 0) = false := beq_eq_false_iff_ne.mpr c4
  have c4b1 : (t303 != 0) = true := bne_iff_ne.mpr c4
  obtain rfl := Option.some.inj H
  go_enter Try.func62, Try.ntmps62
  go_wp2_with (first | ((with_reducible refine gate_callee (f := 36) rfl ?_); refine goesL_ (some 10) rfl rfl Try.func36 (by kernel_rfl) rfl #[.string a0] rfl (by (try simp only [List.map_toArray, List.map_cons, List.map_nil]); first | done | rfl | (simp only [List.length_drop, List.length_take]; rfl)) ?_; (with_reducible refine (reredosref07_Lex.calls k a0 t301 t302 t303 _ A3.out).mono ?_); rintro e w14 ⟨v304, rfl, ho0, hb⟩; refine ⟨_, rfl, ?_⟩; have n0_ := am (Kd.R_lower ho0 (below_size (by repeat (first | (with_reducible first | exact HB.out | apply lA | apply lN | apply lD) | exact HB.out)))); have n1_ := am (below_step (by repeat (first | (with_reducible first | exact HB.out | apply lA | apply lN | apply lD) | exact HB.out)) hb); clear HB; have HO305 := n0_; have HB := n1_; clear n0_ n1_; (try clear hb); (try clear hb2); (try clear hk); (try clear hi); (try clear ho0)))
  go_ret
  exact ⟨by first | rfl | (simp [errW_none, errW_some] <;> rfl) | (simp [*, errW_none, errW_some] <;> rfl), by repeat (first | (with_reducible first | exact HB.out | apply lA | apply lN | apply lD) | exact HB.out)⟩
def reredosref08_has.l0 : Nat → ByteArray → ByteArray → Int → Option (Bool)
 | 0, _, _, _ => none
 | k + 1, x0, x1, x5 => if x5 < (x1.size : Int) then (if 0 ≤ x5 then (if x5 ≤ (wrap64 (x5 + 1)) then (if (wrap64 (x5 + 1)) ≤ (x1.size : Int) then (if x0.toList = (x1.extract (x5 : Int).toNat ((wrap64 (x5 + 1)) : Int).toNat).toList then (some true) else (reredosref08_has.l0 k x0 x1 (wrap64 (x5 + 1)))) else (none)) else (none)) else (none)) else (some (x0.toList == ([] : List UInt8)))
def reredosref08_has.f (k : Nat) (a0 : ByteArray) (a1 : ByteArray) : Option (Bool) := reredosref08_has.l0 k a0 a1 0
theorem reredosref08_has.mono_l : ∀ k, (∀ y0 y1 y2, LeO (reredosref08_has.l0 k y0 y1 y2) (reredosref08_has.l0 (k + 1) y0 y1 y2))
 | 0 => fun _ _ _ r h => by simp [reredosref08_has.l0] at h
 | k + 1 => by
  have ih0 := reredosref08_has.mono_l k
  ·intro y0 y1 y2
   unfold reredosref08_has.l0
   repeat' first
   | (with_reducible exact ih0 _ _ _)
   | (with_reducible exact LeO.refl _)
   | (with_reducible exact LeO.none _)
   | (with_reducible refine LeO.ite ?_ ?_)
   | (with_reducible refine LeO.bind ?_ (fun _ => ?_))
   | exact ih0 _ _ _
   | exact LeO.none _
   | refine LeO.ite ?_ ?_
   | refine LeO.bind ?_ (fun _ => ?_)
theorem reredosref08_has.mono : ∀ a0 a1 k, LeO (reredosref08_has.f k a0 a1) (reredosref08_has.f (k + 1) a0 a1) := by
 intro a0 a1 k
 have ih0 := reredosref08_has.mono_l k
 unfold reredosref08_has.f
 repeat' first
   | (with_reducible exact ih0 _ _ _)
   | (with_reducible exact LeO.refl _)
   | (with_reducible exact LeO.none _)
   | (with_reducible refine LeO.ite ?_ ?_)
   | (with_reducible refine LeO.bind ?_ (fun _ => ?_))
   | exact ih0 _ _ _
   | exact LeO.none _
   | refine LeO.ite ?_ ?_
   | refine LeO.bind ?_ (fun _ => ?_)
set_option maxHeartbeats 8000000 in
set_option maxRecDepth 100000 in
theorem reredosref08_has.calls (k : Nat) (a0 : ByteArray) (a1 : ByteArray) (r : Bool) (w : World) (h : reredosref08_has.f k a0 a1 = some r) :
  Calls Try.prog 63 #[.string a0, .string a1] w fun e w' => e = .returned (.bool r) ∧ Drawn0 w w' := by
 have H : (reredosref08_has.l0 k a0 a1 0) = some r := h
 clear h
 have H' := am H
 clear H
 go_enter Try.func63, Try.ntmps63
 go_wp2
 go_loopg [5] k (fun kq v5 w' => ∃ (x5_1 : Int), v5 = .int .i64 x5_1 ∧ Aside0 (reredosref08_has.l0 kq a0 a1 x5_1 = some r) ∧ Aside0 (kq ≤ k) ∧ Drawn0 w w')
 case atStart => exact ⟨(0), (by first | rfl | (simp; done) | (simp [*]; done)), H', ⟨Nat.le_refl _⟩, by repeat (first | exact Drawn0.refl _ | apply Drawn0.step)⟩
 case round =>
  clear H'
  try clear p2
  obtain ⟨x5_1, rfl, HA, HK1, ⟨m1, rfl⟩⟩ := hrel
  cases gk with
  | zero => exact absurd HA.out (by simp [reredosref08_has.l0])
  | succ k1 =>
   have H := HA.out
   clear HA
   simp only [reredosref08_has.l0] at H
   by_cases c3 : x5_1 < (a1.size : Int)
   ·rw [if_pos c3] at H
    have c3b0 : decide (x5_1 < (a1.size : Int)) = true := decide_eq_true c3
    clear c3
    by_cases c4 : 0 ≤ x5_1
    ·rw [if_pos c4] at H
     have c4b0 := eq_true c4
     have c4b1 : decide (0 ≤ x5_1) = true := decide_eq_true c4
     clear c4
     by_cases c5 : x5_1 ≤ (wrap64 (x5_1 + 1))
     ·rw [if_pos c5] at H
      have c5b0 := eq_true c5
      have c5b1 : decide (x5_1 ≤ (wrap64 (x5_1 + 1))) = true := decide_eq_true c5
      by_cases c6 : (wrap64 (x5_1 + 1)) ≤ (a1.size : Int)
      ·rw [if_pos c6] at H
       have c6b0 := eq_true c6
       have c6b1 : decide ((wrap64 (x5_1 + 1)) ≤ (a1.size : Int)) = true := decide_eq_true c6
       by_cases c7 : a0.toList = (a1.extract (x5_1 : Int).toNat ((wrap64 (x5_1 + 1)) : Int).toNat).toList
       ·rw [if_pos c7] at H
        have c7b0 : (a0.toList == (a1.extract (x5_1 : Int).toNat ((wrap64 (x5_1 + 1)) : Int).toNat).toList) = true := beq_iff_eq.mpr c7
        have c7b1 : (a0.toList != (a1.extract (x5_1 : Int).toNat ((wrap64 (x5_1 + 1)) : Int).toNat).toList) = false := bne_eq_false_iff_eq.mpr c7
        clear c7
        obtain rfl := Option.some.inj H
        go_wp2
        go_ret
        exact ⟨by first | rfl | (simp; done) | (simp [*]; done), by repeat (first | exact Drawn0.refl _ | apply Drawn0.step)⟩
       ·rw [if_neg c7] at H
        have c7b0 : (a0.toList == (a1.extract (x5_1 : Int).toNat ((wrap64 (x5_1 + 1)) : Int).toNat).toList) = false := beq_eq_false_iff_ne.mpr c7
        have c7b1 : (a0.toList != (a1.extract (x5_1 : Int).toNat ((wrap64 (x5_1 + 1)) : Int).toNat).toList) = true := bne_iff_ne.mpr c7
        have H' := am H
        clear H
        go_wp2
        go_roundg k1
        case measure => have := HK1.out; omega
        case rel => exact ⟨(wrap64 (x5_1 + 1)), (by first | rfl | (simp; done) | (simp [*]; done)), H', ⟨by have := HK1.out; omega⟩, by repeat (first | exact Drawn0.refl _ | apply Drawn0.step)⟩
      ·rw [if_neg c6] at H
       exact absurd H (by simp)
     ·rw [if_neg c5] at H
      exact absurd H (by simp)
    ·rw [if_neg c4] at H
     exact absurd H (by simp)
   ·rw [if_neg c3] at H
    have c3b0 : decide (x5_1 < (a1.size : Int)) = false := decide_eq_false c3
    clear c3
    obtain rfl := Option.some.inj H
    go_wp2
    go_ret
    exact ⟨by first | rfl | (simp; done) | (simp [*]; done), by repeat (first | exact Drawn0.refl _ | apply Drawn0.step)⟩
end Go.Proofs.Ytdelccahgchadaa.P
end
