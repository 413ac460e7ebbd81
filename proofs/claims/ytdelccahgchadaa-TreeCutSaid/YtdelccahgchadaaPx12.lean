/- Walks, written by a program out of the translation. -/
import Derived.Test.YtdelccahgchadaaPx0
import Derived.Test.YtdelccahgchadaaGBase
import Derived.Test.YtdelccahgchadaaGLex
import Derived.Test.YtdelccahgchadaaGTree
namespace Go.Proofs.Ytdelccahgchadaa.P
open Go.RowKit Go.Proofs.YtdelccahgchadaaW.PrintWords Go.Proofs.YtdelccahgchadaaW.PrintLast Go.Proofs.YtdelccahgchadaaW.PrintMore
attribute [local go_sem] max2_int min2_int max_two min_two max_three min_three max_four min_four   -- for this text's walks alone
set_option linter.unusedVariables false
set_option linter.unusedSimpArgs false

/-! ### reredosref08_Few: function 18 -/
mutual
def reredosref08_Few.l0 : Nat → List (S25) → Int → Option (Bool)
  | 0, _, _ => none
  | k + 1, x0, x3 => if x3 < (x0.length : Int) then (reredosref08_Few.j1 k x0 x3 (decide (x3 < 81))) else (reredosref08_Few.j1 k x0 x3 false)
def reredosref08_Few.j1 : Nat → List (S25) → Int → Bool → Option (Bool)
  | 0, _, _, _ => none
  | k + 1, x0, x3, x12 => if x12 = true then (if 0 ≤ x3 then (if x3 < (x0.length : Int) then (if (((rd_T25 x0 x3).f1).size : Int) > 120 then (reredosref08_Few.j2 k x0 x3 true) else (if (((rd_T25 x0 x3).f2).size : Int) > 120 then (reredosref08_Few.j2 k x0 x3 true) else (if (((rd_T25 x0 x3).f3).size : Int) > 120 then (reredosref08_Few.j2 k x0 x3 true) else (reredosref08_Few.j2 k x0 x3 (decide ((((rd_T25 x0 x3).f4).length : Int) > 120)))))) else (none)) else (none)) else (some (decide ((x0.length : Int) ≤ 80)))
def reredosref08_Few.j2 : Nat → List (S25) → Int → Bool → Option (Bool)
  | 0, _, _, _ => none
  | k + 1, x0, x3, x48 => if x48 = true then (some false) else (reredosref08_Few.l1 k x0 x3 0)
def reredosref08_Few.l1 : Nat → List (S25) → Int → Int → Option (Bool)
  | 0, _, _, _ => none
  | k + 1, x0, x3, x4 => if 0 ≤ x3 then (if x3 < (x0.length : Int) then (if x4 < (((rd_T25 x0 x3).f4).length : Int) then (if 0 ≤ x4 then (if ((rdOf ByteArray.empty ((rd_T25 x0 x3).f4) x4).size : Int) > 120 then (some false) else (reredosref08_Few.l1 k x0 x3 (wrap64 (x4 + 1)))) else (none)) else (reredosref08_Few.l0 k x0 (wrap64 (x3 + 1)))) else (none)) else (none)
end
def reredosref08_Few.f (k : Nat) (l0 : List (S25)) : Option (Bool) := reredosref08_Few.l0 k l0 0
theorem reredosref08_Few.mono_l : ∀ k, (∀ y0 y1, LeO (reredosref08_Few.l0 k y0 y1) (reredosref08_Few.l0 (k + 1) y0 y1)) ∧ (∀ y0 y1 y2, LeO (reredosref08_Few.j1 k y0 y1 y2) (reredosref08_Few.j1 (k + 1) y0 y1 y2)) ∧ (∀ y0 y1 y2, LeO (reredosref08_Few.j2 k y0 y1 y2) (reredosref08_Few.j2 (k + 1) y0 y1 y2)) ∧ (∀ y0 y1 y2, LeO (reredosref08_Few.l1 k y0 y1 y2) (reredosref08_Few.l1 (k + 1) y0 y1 y2))
  | 0 => ⟨fun _ _ r h => by simp [reredosref08_Few.l0] at h, fun _ _ _ r h => by simp [reredosref08_Few.j1] at h, fun _ _ _ r h => by simp [reredosref08_Few.j2] at h, fun _ _ _ r h => by simp [reredosref08_Few.l1] at h⟩
  | k + 1 => by
    obtain ⟨ih0, ih1, ih2, ih3⟩ := reredosref08_Few.mono_l k
    refine ⟨?_, ?_, ?_, ?_⟩
    · intro y0 y1
      unfold reredosref08_Few.l0
      repeat' first
      | (with_reducible exact ih0 _ _)
      | (with_reducible exact ih1 _ _ _)
      | (with_reducible exact ih2 _ _ _)
      | (with_reducible exact ih3 _ _ _)
      | (with_reducible exact LeO.refl _)
      | (with_reducible exact LeO.none _)
      | (with_reducible refine LeO.ite ?_ ?_)
      | (with_reducible refine LeO.bind ?_ (fun _ => ?_))
      | exact ih0 _ _
      | exact ih1 _ _ _
      | exact ih2 _ _ _
      | exact ih3 _ _ _
      | exact LeO.none _
      | refine LeO.ite ?_ ?_
      | refine LeO.bind ?_ (fun _ => ?_)
    · intro y0 y1 y2
      unfold reredosref08_Few.j1
      repeat' first
      | (with_reducible exact ih0 _ _)
      | (with_reducible exact ih1 _ _ _)
      | (with_reducible exact ih2 _ _ _)
      | (with_reducible exact ih3 _ _ _)
      | (with_reducible exact LeO.refl _)
      | (with_reducible exact LeO.none _)
      | (with_reducible refine LeO.ite ?_ ?_)
      | (with_reducible refine LeO.bind ?_ (fun _ => ?_))
      | exact ih0 _ _
      | exact ih1 _ _ _
      | exact ih2 _ _ _
      | exact ih3 _ _ _
      | exact LeO.none _
      | refine LeO.ite ?_ ?_
      | refine LeO.bind ?_ (fun _ => ?_)
    · intro y0 y1 y2
      unfold reredosref08_Few.j2
      repeat' first
      | (with_reducible exact ih0 _ _)
      | (with_reducible exact ih1 _ _ _)
      | (with_reducible exact ih2 _ _ _)
      | (with_reducible exact ih3 _ _ _)
      | (with_reducible exact LeO.refl _)
      | (with_reducible exact LeO.none _)
      | (with_reducible refine LeO.ite ?_ ?_)
      | (with_reducible refine LeO.bind ?_ (fun _ => ?_))
      | exact ih0 _ _
      | exact ih1 _ _ _
      | exact ih2 _ _ _
      | exact ih3 _ _ _
      | exact LeO.none _
      | refine LeO.ite ?_ ?_
      | refine LeO.bind ?_ (fun _ => ?_)
    · intro y0 y1 y2
      unfold reredosref08_Few.l1
      repeat' first
      | (with_reducible exact ih0 _ _)
      | (with_reducible exact ih1 _ _ _)
      | (with_reducible exact ih2 _ _ _)
      | (with_reducible exact ih3 _ _ _)
      | (with_reducible exact LeO.refl _)
      | (with_reducible exact LeO.none _)
      | (with_reducible refine LeO.ite ?_ ?_)
      | (with_reducible refine LeO.bind ?_ (fun _ => ?_))
      | exact ih0 _ _
      | exact ih1 _ _ _
      | exact ih2 _ _ _
      | exact ih3 _ _ _
      | exact LeO.none _
      | refine LeO.ite ?_ ?_
      | refine LeO.bind ?_ (fun _ => ?_)
theorem reredosref08_Few.mono : ∀ a0 k, LeO (reredosref08_Few.f k a0) (reredosref08_Few.f (k + 1) a0) := by
  intro a0 k
  obtain ⟨ih0, ih1, ih2, ih3⟩ := reredosref08_Few.mono_l k
  unfold reredosref08_Few.f
  repeat' first
      | (with_reducible exact ih0 _ _)
      | (with_reducible exact ih1 _ _ _)
      | (with_reducible exact ih2 _ _ _)
      | (with_reducible exact ih3 _ _ _)
      | (with_reducible exact LeO.refl _)
      | (with_reducible exact LeO.none _)
      | (with_reducible refine LeO.ite ?_ ?_)
      | (with_reducible refine LeO.bind ?_ (fun _ => ?_))
      | exact ih0 _ _
      | exact ih1 _ _ _
      | exact ih2 _ _ _
      | exact ih3 _ _ _
      | exact LeO.none _
      | refine LeO.ite ?_ ?_
      | refine LeO.bind ?_ (fun _ => ?_)
set_option maxHeartbeats 8000000 in
set_option maxRecDepth 100000 in
theorem reredosref08_Few.calls (k : Nat) (A0 : Option Addr) (c0 : Nat) (l0 : List (S25)) (r : Bool) (w : World) (hr0 : Kd.C k25 w A0 l0.length l0) (hc0 : l0.length ≤ c0) (h : reredosref08_Few.f k l0 = some r) :
    Calls Try.prog 18 #[.slice A0 l0.length c0] w fun e w' => e = .returned (.bool r) ∧ Drawn0 w w' := by
  have HR0 := Aside0.mk hr0
  have HC0 := Aside0.mk hc0
  clear hr0 hc0
  have H : (reredosref08_Few.l0 k l0 0) = some r := h
  clear h
  have H' := Aside0.mk H
  clear H
  go_enter Try.func18, Try.ntmps18
  go_wp2
  go_loopg [3] k (fun kq v3 w' => ∃ (x3_1 : Int), v3 = .int .i64 x3_1 ∧ Aside0 (reredosref08_Few.l0 kq l0 x3_1 = some r) ∧ Aside0 (kq ≤ k) ∧ Drawn0 w w')
  case atStart => exact ⟨(0), (by first | rfl | (simp; done) | (simp [*]; done)), H', ⟨Nat.le_refl _⟩, by repeat (first | exact Drawn0.refl _ | apply Drawn0.step)⟩
  case round =>
    clear H'
    try clear c1
    obtain ⟨x3_1, rfl, HA, HK1, ⟨m1, rfl⟩⟩ := hrel
    cases gk with
    | zero => exact absurd HA.out (by simp [reredosref08_Few.l0])
    | succ k1 =>
      have H := HA.out
      clear HA
      simp only [reredosref08_Few.l0] at H
      have HC2 := Aside0.mk H
      clear H
      go_upto_region 2 with (fail)
      go_cut [12] (fun v12 wc => ∃ (kq : Nat) (x12_1 : Bool), v12 = .bool x12_1 ∧ Aside0 (reredosref08_Few.j1 kq l0 x3_1 x12_1 = some r) ∧ Aside0 (kq ≤ k1) ∧ Drawn0 w wc)
      case first =>
        have H := HC2.out
        clear HC2
        by_cases c3 : x3_1 < (l0.length : Int)
        · rw [if_pos c3] at H
          have c3b0 : decide (x3_1 < (l0.length : Int)) = true := decide_eq_true c3
          clear c3
          (first | rw [c3b0] | (simp only [i64_w, i32_w]; rw [c3b0]) | skip)
          have H' := Aside0.mk H
          clear H
          go_wp2
          go_meet
          case rel => exact ⟨_, (decide (x3_1 < 81)), (by first | rfl | (simp; done) | (simp [*]; done)), H', ⟨by have := HK1.out; first | omega | exact Nat.le_refl _⟩, by repeat (first | exact Drawn0.refl _ | apply Drawn0.step)⟩
        · rw [if_neg c3] at H
          have c3b0 : decide (x3_1 < (l0.length : Int)) = false := decide_eq_false c3
          clear c3
          (first | rw [c3b0] | (simp only [i64_w, i32_w]; rw [c3b0]) | skip)
          have H' := Aside0.mk H
          clear H
          go_wp2
          go_meet
          case rel => exact ⟨_, (false), (by first | rfl | (simp; done) | (simp [*]; done)), H', ⟨by have := HK1.out; first | omega | exact Nat.le_refl _⟩, by repeat (first | exact Drawn0.refl _ | apply Drawn0.step)⟩
      case rest =>
        clear HC2
        try clear c1
        try clear p2
        try clear c3
        try clear c3b0
        obtain ⟨kq, x12_1, rfl, HA, HJ1, ⟨mc1, rfl⟩⟩ := hcut
        cases kq with
        | zero => exact absurd HA.out (by simp [reredosref08_Few.j1])
        | succ kj1 =>
          have H := HA.out
          clear HA
          simp only [reredosref08_Few.j1] at H
          by_cases c4 : x12_1 = true
          · subst c4
            have H1 : (if 0 ≤ x3_1 then (if x3_1 < (l0.length : Int) then (if (((rd_T25 l0 x3_1).f1).size : Int) > 120 then (reredosref08_Few.j2 kj1 l0 x3_1 true) else (if (((rd_T25 l0 x3_1).f2).size : Int) > 120 then (reredosref08_Few.j2 kj1 l0 x3_1 true) else (if (((rd_T25 l0 x3_1).f3).size : Int) > 120 then (reredosref08_Few.j2 kj1 l0 x3_1 true) else (reredosref08_Few.j2 kj1 l0 x3_1 (decide ((((rd_T25 l0 x3_1).f4).length : Int) > 120)))))) else (none)) else (none)) = some r := by rw [if_pos rfl] at H; exact H
            clear H
            have H := H1
            clear H1
            have HC5 := Aside0.mk H
            clear H
            go_upto_region 4 with (fail)
            go_cut [48] (fun v48 wc => ∃ (kq : Nat) (x48_4 : Bool), v48 = .bool x48_4 ∧ Aside0 (reredosref08_Few.j2 kq l0 x3_1 x48_4 = some r) ∧ Aside0 (kq ≤ kj1) ∧ Drawn0 w wc)
            case first =>
              have H := HC5.out
              clear HC5
              by_cases c6 : 0 ≤ x3_1
              · rw [if_pos c6] at H
                have c6b0 : decide (0 ≤ x3_1) = true := decide_eq_true c6
                clear c6
                (first | rw [c6b0] | (simp only [i64_w, i32_w]; rw [c6b0]) | skip)
                by_cases c7 : x3_1 < (l0.length : Int)
                · rw [if_pos c7] at H
                  have c7b0 : decide (x3_1 < (l0.length : Int)) = true := decide_eq_true c7
                  clear c7
                  by_cases c8 : (((rd_T25 l0 x3_1).f1).size : Int) > 120
                  · rw [if_pos c8] at H
                    have c8b0 : decide (120 < (((rd_T25 l0 x3_1).f1).size : Int)) = true := decide_eq_true c8
                    have c8b1 : decide (120 < ((rd_T25 l0 x3_1).f1).size) = true := decide_eq_true (by omega)
                    clear c8
                    have H' := Aside0.mk H
                    clear H
                    have p235 : 0 ≤ (x3_1 : Int) := of_decide_eq_true (by first | (with_reducible assumption) | assumption)
                    have q235 : x3_1 < (l0.length : Int) := of_decide_eq_true (by first | (with_reducible assumption) | assumption)
                    obtain ⟨ad235, A235_4, c235_4, e235, hx235_0, hx235_1, hx235_2, hx235_3, hx235_4, hl235_4, hi235_4⟩ := at_T25 HR0.out x3_1 p235 q235
                    cases e235
                    have HR235_4 := Aside0.mk hi235_4
                    have HC235_4 := Aside0.mk hl235_4
                    clear hi235_4 hl235_4
                    replace p235 := eq_true p235
                    replace q235 := eq_true q235
                    go_wp2
                    go_meet
                    case rel => exact ⟨_, (true), (by first | rfl | (simp; done) | (simp [*]; done)), H', ⟨by have := HK1.out; have := HJ1.out; first | omega | exact Nat.le_refl _⟩, by repeat (first | exact Drawn0.refl _ | apply Drawn0.step)⟩
                  · rw [if_neg c8] at H
                    have c8b0 : decide (120 < (((rd_T25 l0 x3_1).f1).size : Int)) = false := decide_eq_false c8
                    have c8b1 : decide (120 < ((rd_T25 l0 x3_1).f1).size) = false := decide_eq_false (by omega)
                    clear c8
                    by_cases c9 : (((rd_T25 l0 x3_1).f2).size : Int) > 120
                    · rw [if_pos c9] at H
                      have c9b0 : decide (120 < (((rd_T25 l0 x3_1).f2).size : Int)) = true := decide_eq_true c9
                      have c9b1 : decide (120 < ((rd_T25 l0 x3_1).f2).size) = true := decide_eq_true (by omega)
                      clear c9
                      have H' := Aside0.mk H
                      clear H
                      have p235 : 0 ≤ (x3_1 : Int) := of_decide_eq_true (by first | (with_reducible assumption) | assumption)
                      have q235 : x3_1 < (l0.length : Int) := of_decide_eq_true (by first | (with_reducible assumption) | assumption)
                      obtain ⟨ad235, A235_4, c235_4, e235, hx235_0, hx235_1, hx235_2, hx235_3, hx235_4, hl235_4, hi235_4⟩ := at_T25 HR0.out x3_1 p235 q235
                      cases e235
                      have HR235_4 := Aside0.mk hi235_4
                      have HC235_4 := Aside0.mk hl235_4
                      clear hi235_4 hl235_4
                      replace p235 := eq_true p235
                      replace q235 := eq_true q235
                      have p236 : 0 ≤ (x3_1 : Int) := of_decide_eq_true (by first | (with_reducible assumption) | assumption)
                      have q236 : x3_1 < (l0.length : Int) := of_decide_eq_true (by first | (with_reducible assumption) | assumption)
                      obtain ⟨ad236, A236_4, c236_4, e236, hx236_0, hx236_1, hx236_2, hx236_3, hx236_4, hl236_4, hi236_4⟩ := at_T25 HR0.out x3_1 p236 q236
                      obtain rfl : ad235 = ad236 := (by injection e236)
                      have HR236_4 := Aside0.mk hi236_4
                      have HC236_4 := Aside0.mk hl236_4
                      clear hi236_4 hl236_4
                      replace p236 := eq_true p236
                      replace q236 := eq_true q236
                      have ea_ := Option.some.inj (hx235_4.symm.trans hx236_4)
                      injection ea_ with ea_ en_ ec_
                      subst ea_
                      subst ec_
                      clear en_
                      go_wp2
                      go_meet
                      case rel => exact ⟨_, (true), (by first | rfl | (simp; done) | (simp [*]; done)), H', ⟨by have := HK1.out; have := HJ1.out; first | omega | exact Nat.le_refl _⟩, by repeat (first | exact Drawn0.refl _ | apply Drawn0.step)⟩
                    · rw [if_neg c9] at H
                      have c9b0 : decide (120 < (((rd_T25 l0 x3_1).f2).size : Int)) = false := decide_eq_false c9
                      have c9b1 : decide (120 < ((rd_T25 l0 x3_1).f2).size) = false := decide_eq_false (by omega)
                      clear c9
                      by_cases c10 : (((rd_T25 l0 x3_1).f3).size : Int) > 120
                      · rw [if_pos c10] at H
                        have c10b0 : decide (120 < (((rd_T25 l0 x3_1).f3).size : Int)) = true := decide_eq_true c10
                        have c10b1 : decide (120 < ((rd_T25 l0 x3_1).f3).size) = true := decide_eq_true (by omega)
                        clear c10
                        have H' := Aside0.mk H
                        clear H
                        have p235 : 0 ≤ (x3_1 : Int) := of_decide_eq_true (by first | (with_reducible assumption) | assumption)
                        have q235 : x3_1 < (l0.length : Int) := of_decide_eq_true (by first | (with_reducible assumption) | assumption)
                        obtain ⟨ad235, A235_4, c235_4, e235, hx235_0, hx235_1, hx235_2, hx235_3, hx235_4, hl235_4, hi235_4⟩ := at_T25 HR0.out x3_1 p235 q235
                        cases e235
                        have HR235_4 := Aside0.mk hi235_4
                        have HC235_4 := Aside0.mk hl235_4
                        clear hi235_4 hl235_4
                        replace p235 := eq_true p235
                        replace q235 := eq_true q235
                        have p236 : 0 ≤ (x3_1 : Int) := of_decide_eq_true (by first | (with_reducible assumption) | assumption)
                        have q236 : x3_1 < (l0.length : Int) := of_decide_eq_true (by first | (with_reducible assumption) | assumption)
                        obtain ⟨ad236, A236_4, c236_4, e236, hx236_0, hx236_1, hx236_2, hx236_3, hx236_4, hl236_4, hi236_4⟩ := at_T25 HR0.out x3_1 p236 q236
                        obtain rfl : ad235 = ad236 := (by injection e236)
                        have HR236_4 := Aside0.mk hi236_4
                        have HC236_4 := Aside0.mk hl236_4
                        clear hi236_4 hl236_4
                        replace p236 := eq_true p236
                        replace q236 := eq_true q236
                        have ea_ := Option.some.inj (hx235_4.symm.trans hx236_4)
                        injection ea_ with ea_ en_ ec_
                        subst ea_
                        subst ec_
                        clear en_
                        have p237 : 0 ≤ (x3_1 : Int) := of_decide_eq_true (by first | (with_reducible assumption) | assumption)
                        have q237 : x3_1 < (l0.length : Int) := of_decide_eq_true (by first | (with_reducible assumption) | assumption)
                        obtain ⟨ad237, A237_4, c237_4, e237, hx237_0, hx237_1, hx237_2, hx237_3, hx237_4, hl237_4, hi237_4⟩ := at_T25 HR0.out x3_1 p237 q237
                        obtain rfl : ad235 = ad237 := (by injection e237)
                        have HR237_4 := Aside0.mk hi237_4
                        have HC237_4 := Aside0.mk hl237_4
                        clear hi237_4 hl237_4
                        replace p237 := eq_true p237
                        replace q237 := eq_true q237
                        have ea_ := Option.some.inj (hx235_4.symm.trans hx237_4)
                        injection ea_ with ea_ en_ ec_
                        subst ea_
                        subst ec_
                        clear en_
                        go_wp2
                        go_meet
                        case rel => exact ⟨_, (true), (by first | rfl | (simp; done) | (simp [*]; done)), H', ⟨by have := HK1.out; have := HJ1.out; first | omega | exact Nat.le_refl _⟩, by repeat (first | exact Drawn0.refl _ | apply Drawn0.step)⟩
                      · rw [if_neg c10] at H
                        have c10b0 : decide (120 < (((rd_T25 l0 x3_1).f3).size : Int)) = false := decide_eq_false c10
                        have c10b1 : decide (120 < ((rd_T25 l0 x3_1).f3).size) = false := decide_eq_false (by omega)
                        clear c10
                        have H' := Aside0.mk H
                        clear H
                        have p235 : 0 ≤ (x3_1 : Int) := of_decide_eq_true (by first | (with_reducible assumption) | assumption)
                        have q235 : x3_1 < (l0.length : Int) := of_decide_eq_true (by first | (with_reducible assumption) | assumption)
                        obtain ⟨ad235, A235_4, c235_4, e235, hx235_0, hx235_1, hx235_2, hx235_3, hx235_4, hl235_4, hi235_4⟩ := at_T25 HR0.out x3_1 p235 q235
                        cases e235
                        have HR235_4 := Aside0.mk hi235_4
                        have HC235_4 := Aside0.mk hl235_4
                        clear hi235_4 hl235_4
                        replace p235 := eq_true p235
                        replace q235 := eq_true q235
                        have p236 : 0 ≤ (x3_1 : Int) := of_decide_eq_true (by first | (with_reducible assumption) | assumption)
                        have q236 : x3_1 < (l0.length : Int) := of_decide_eq_true (by first | (with_reducible assumption) | assumption)
                        obtain ⟨ad236, A236_4, c236_4, e236, hx236_0, hx236_1, hx236_2, hx236_3, hx236_4, hl236_4, hi236_4⟩ := at_T25 HR0.out x3_1 p236 q236
                        obtain rfl : ad235 = ad236 := (by injection e236)
                        have HR236_4 := Aside0.mk hi236_4
                        have HC236_4 := Aside0.mk hl236_4
                        clear hi236_4 hl236_4
                        replace p236 := eq_true p236
                        replace q236 := eq_true q236
                        have ea_ := Option.some.inj (hx235_4.symm.trans hx236_4)
                        injection ea_ with ea_ en_ ec_
                        subst ea_
                        subst ec_
                        clear en_
                        have p237 : 0 ≤ (x3_1 : Int) := of_decide_eq_true (by first | (with_reducible assumption) | assumption)
                        have q237 : x3_1 < (l0.length : Int) := of_decide_eq_true (by first | (with_reducible assumption) | assumption)
                        obtain ⟨ad237, A237_4, c237_4, e237, hx237_0, hx237_1, hx237_2, hx237_3, hx237_4, hl237_4, hi237_4⟩ := at_T25 HR0.out x3_1 p237 q237
                        obtain rfl : ad235 = ad237 := (by injection e237)
                        have HR237_4 := Aside0.mk hi237_4
                        have HC237_4 := Aside0.mk hl237_4
                        clear hi237_4 hl237_4
                        replace p237 := eq_true p237
                        replace q237 := eq_true q237
                        have ea_ := Option.some.inj (hx235_4.symm.trans hx237_4)
                        injection ea_ with ea_ en_ ec_
                        subst ea_
                        subst ec_
                        clear en_
                        have p238 : 0 ≤ (x3_1 : Int) := of_decide_eq_true (by first | (with_reducible assumption) | assumption)
                        have q238 : x3_1 < (l0.length : Int) := of_decide_eq_true (by first | (with_reducible assumption) | assumption)
                        obtain ⟨ad238, A238_4, c238_4, e238, hx238_0, hx238_1, hx238_2, hx238_3, hx238_4, hl238_4, hi238_4⟩ := at_T25 HR0.out x3_1 p238 q238
                        obtain rfl : ad235 = ad238 := (by injection e238)
                        have HR238_4 := Aside0.mk hi238_4
                        have HC238_4 := Aside0.mk hl238_4
                        clear hi238_4 hl238_4
                        replace p238 := eq_true p238
                        replace q238 := eq_true q238
                        have ea_ := Option.some.inj (hx235_4.symm.trans hx238_4)
                        injection ea_ with ea_ en_ ec_
                        subst ea_
                        subst ec_
                        clear en_
                        go_wp2
                        go_meet
                        case rel => exact ⟨_, (decide ((((rd_T25 l0 x3_1).f4).length : Int) > 120)), (by first | rfl | (simp; done) | (simp [*]; done)), H', ⟨by have := HK1.out; have := HJ1.out; first | omega | exact Nat.le_refl _⟩, by repeat (first | exact Drawn0.refl _ | apply Drawn0.step)⟩
                · rw [if_neg c7] at H
                  exact absurd H (by simp)
              · rw [if_neg c6] at H
                exact absurd H (by simp)
            case rest =>
              clear HC5
              try clear c1
              try clear c2
              try clear p2
              try clear q2
              try clear hx2
              try clear c3
              try clear c3b0
              try clear c4
              try clear c6
              try clear c6b0
              try clear c7
              try clear c7b0
              try clear c8
              try clear c8b0
              try clear c8b1
              try clear c9
              try clear c9b0
              try clear c9b1
              try clear c10
              try clear c10b0
              try clear c10b1
              try clear hx235_0
              try clear hx235_1
              try clear hx235_2
              try clear hx235_3
              try clear hx235_4
              try clear hx236_0
              try clear hx236_1
              try clear hx236_2
              try clear hx236_3
              try clear hx236_4
              try clear hx237_0
              try clear hx237_1
              try clear hx237_2
              try clear hx237_3
              try clear hx237_4
              try clear hx238_0
              try clear hx238_1
              try clear hx238_2
              try clear hx238_3
              try clear hx238_4
              try clear p2
              try clear p235
              try clear p236
              try clear p237
              try clear p238
              try clear q235
              try clear q236
              try clear q237
              try clear q238
              obtain ⟨kq, x48_4, rfl, HA, HJ4, ⟨mc4, rfl⟩⟩ := hcut
              cases kq with
              | zero => exact absurd HA.out (by simp [reredosref08_Few.j2])
              | succ kj4 =>
                have H := HA.out
                clear HA
                simp only [reredosref08_Few.j2] at H
                by_cases c11 : x48_4 = true
                · subst c11
                  have H1 : (some false) = some r := by rw [if_pos rfl] at H; exact H
                  clear H
                  have H := H1
                  clear H1
                  obtain rfl := Option.some.inj H
                  go_wp2
                  go_ret
                  exact ⟨by first | rfl | (simp; done) | (simp [*]; done), by repeat (first | exact Drawn0.refl _ | apply Drawn0.step)⟩
                · replace c11 := Bool.eq_false_iff.mpr c11
                  subst c11
                  have H1 : (reredosref08_Few.l1 kj4 l0 x3_1 0) = some r := by rw [if_neg (show ¬ (false = true) by decide)] at H; exact H
                  clear H
                  have H := H1
                  clear H1
                  have H' := Aside0.mk H
                  clear H
                  go_wp2
                  go_loopg [4] kj4 (fun kq v4 w' => ∃ (x4_4 : Int), v4 = .int .i64 x4_4 ∧ Aside0 (reredosref08_Few.l1 kq l0 x3_1 x4_4 = some r) ∧ Aside0 (kq ≤ kj4) ∧ Drawn0 w w')
                  case atStart => exact ⟨(0), (by first | rfl | (simp; done) | (simp [*]; done)), H', ⟨Nat.le_refl _⟩, by repeat (first | exact Drawn0.refl _ | apply Drawn0.step)⟩
                  case round =>
                    clear H'
                    try clear c1
                    try clear c2
                    try clear p2
                    try clear q2
                    try clear hx2
                    try clear c3
                    try clear c3b0
                    try clear c4
                    try clear c6
                    try clear c6b0
                    try clear c7
                    try clear c7b0
                    try clear c8
                    try clear c8b0
                    try clear c8b1
                    try clear c9
                    try clear c9b0
                    try clear c9b1
                    try clear c10
                    try clear c10b0
                    try clear c10b1
                    try clear c11
                    try clear hx235_0
                    try clear hx235_1
                    try clear hx235_2
                    try clear hx235_3
                    try clear hx235_4
                    try clear hx236_0
                    try clear hx236_1
                    try clear hx236_2
                    try clear hx236_3
                    try clear hx236_4
                    try clear hx237_0
                    try clear hx237_1
                    try clear hx237_2
                    try clear hx237_3
                    try clear hx237_4
                    try clear hx238_0
                    try clear hx238_1
                    try clear hx238_2
                    try clear hx238_3
                    try clear hx238_4
                    try clear p2
                    try clear p235
                    try clear p236
                    try clear p237
                    try clear p238
                    try clear q2
                    try clear q235
                    try clear q236
                    try clear q237
                    try clear q238
                    obtain ⟨x4_4, rfl, HA, HK4, ⟨m4, rfl⟩⟩ := hrel
                    cases gk with
                    | zero => exact absurd HA.out (by simp [reredosref08_Few.l1])
                    | succ k4 =>
                      have H := HA.out
                      clear HA
                      simp only [reredosref08_Few.l1] at H
                      by_cases c12 : 0 ≤ x3_1
                      · rw [if_pos c12] at H
                        have c12b0 : decide (0 ≤ x3_1) = true := decide_eq_true c12
                        clear c12
                        by_cases c13 : x3_1 < (l0.length : Int)
                        · rw [if_pos c13] at H
                          have c13b0 : decide (x3_1 < (l0.length : Int)) = true := decide_eq_true c13
                          clear c13
                          by_cases c14 : x4_4 < (((rd_T25 l0 x3_1).f4).length : Int)
                          · rw [if_pos c14] at H
                            have c14b0 : decide (x4_4 < (((rd_T25 l0 x3_1).f4).length : Int)) = true := decide_eq_true c14
                            clear c14
                            by_cases c15 : 0 ≤ x4_4
                            · rw [if_pos c15] at H
                              have c15b0 : decide (0 ≤ x4_4) = true := decide_eq_true c15
                              clear c15
                              by_cases c16 : ((rdOf ByteArray.empty ((rd_T25 l0 x3_1).f4) x4_4).size : Int) > 120
                              · rw [if_pos c16] at H
                                have c16b0 : decide (120 < ((rdOf ByteArray.empty ((rd_T25 l0 x3_1).f4) x4_4).size : Int)) = true := decide_eq_true c16
                                have c16b1 : decide (120 < (rdOf ByteArray.empty ((rd_T25 l0 x3_1).f4) x4_4).size) = true := decide_eq_true (by omega)
                                clear c16
                                obtain rfl := Option.some.inj H
                                have p239 : 0 ≤ (x3_1 : Int) := of_decide_eq_true (by first | (with_reducible assumption) | assumption)
                                have q239 : x3_1 < (l0.length : Int) := of_decide_eq_true (by first | (with_reducible assumption) | assumption)
                                obtain ⟨ad239, A239_4, c239_4, e239, hx239_0, hx239_1, hx239_2, hx239_3, hx239_4, hl239_4, hi239_4⟩ := at_T25 HR0.out x3_1 p239 q239
                                cases e239
                                have HR239_4 := Aside0.mk hi239_4
                                have HC239_4 := Aside0.mk hl239_4
                                clear hi239_4 hl239_4
                                replace p239 := eq_true p239
                                replace q239 := eq_true q239
                                have p240 : 0 ≤ (x3_1 : Int) := of_decide_eq_true (by first | (with_reducible assumption) | assumption)
                                have q240 : x3_1 < (l0.length : Int) := of_decide_eq_true (by first | (with_reducible assumption) | assumption)
                                obtain ⟨ad240, A240_4, c240_4, e240, hx240_0, hx240_1, hx240_2, hx240_3, hx240_4, hl240_4, hi240_4⟩ := at_T25 HR0.out x3_1 p240 q240
                                obtain rfl : ad239 = ad240 := (by injection e240)
                                have HR240_4 := Aside0.mk hi240_4
                                have HC240_4 := Aside0.mk hl240_4
                                clear hi240_4 hl240_4
                                replace p240 := eq_true p240
                                replace q240 := eq_true q240
                                have ea_ := Option.some.inj (hx239_4.symm.trans hx240_4)
                                injection ea_ with ea_ en_ ec_
                                subst ea_
                                subst ec_
                                clear en_
                                have p241 : 0 ≤ (x4_4 : Int) := of_decide_eq_true (by first | (with_reducible assumption) | assumption)
                                have q241 : x4_4 < (((rd_T25 l0 x3_1).f4).length : Int) := of_decide_eq_true (by first | (with_reducible assumption) | assumption)
                                obtain ⟨ad241, e241, hx241_0⟩ := Kd.at_string HR240_4.out x4_4 p241 q241
                                cases e241
                                replace p241 := eq_true p241
                                replace q241 := eq_true q241
                                go_wp2
                                go_ret
                                exact ⟨by first | rfl | (simp; done) | (simp [*]; done), by repeat (first | exact Drawn0.refl _ | apply Drawn0.step)⟩
                              · rw [if_neg c16] at H
                                have c16b0 : decide (120 < ((rdOf ByteArray.empty ((rd_T25 l0 x3_1).f4) x4_4).size : Int)) = false := decide_eq_false c16
                                have c16b1 : decide (120 < (rdOf ByteArray.empty ((rd_T25 l0 x3_1).f4) x4_4).size) = false := decide_eq_false (by omega)
                                clear c16
                                have H' := Aside0.mk H
                                clear H
                                have p239 : 0 ≤ (x3_1 : Int) := of_decide_eq_true (by first | (with_reducible assumption) | assumption)
                                have q239 : x3_1 < (l0.length : Int) := of_decide_eq_true (by first | (with_reducible assumption) | assumption)
                                obtain ⟨ad239, A239_4, c239_4, e239, hx239_0, hx239_1, hx239_2, hx239_3, hx239_4, hl239_4, hi239_4⟩ := at_T25 HR0.out x3_1 p239 q239
                                cases e239
                                have HR239_4 := Aside0.mk hi239_4
                                have HC239_4 := Aside0.mk hl239_4
                                clear hi239_4 hl239_4
                                replace p239 := eq_true p239
                                replace q239 := eq_true q239
                                have p240 : 0 ≤ (x3_1 : Int) := of_decide_eq_true (by first | (with_reducible assumption) | assumption)
                                have q240 : x3_1 < (l0.length : Int) := of_decide_eq_true (by first | (with_reducible assumption) | assumption)
                                obtain ⟨ad240, A240_4, c240_4, e240, hx240_0, hx240_1, hx240_2, hx240_3, hx240_4, hl240_4, hi240_4⟩ := at_T25 HR0.out x3_1 p240 q240
                                obtain rfl : ad239 = ad240 := (by injection e240)
                                have HR240_4 := Aside0.mk hi240_4
                                have HC240_4 := Aside0.mk hl240_4
                                clear hi240_4 hl240_4
                                replace p240 := eq_true p240
                                replace q240 := eq_true q240
                                have ea_ := Option.some.inj (hx239_4.symm.trans hx240_4)
                                injection ea_ with ea_ en_ ec_
                                subst ea_
                                subst ec_
                                clear en_
                                have p241 : 0 ≤ (x4_4 : Int) := of_decide_eq_true (by first | (with_reducible assumption) | assumption)
                                have q241 : x4_4 < (((rd_T25 l0 x3_1).f4).length : Int) := of_decide_eq_true (by first | (with_reducible assumption) | assumption)
                                obtain ⟨ad241, e241, hx241_0⟩ := Kd.at_string HR240_4.out x4_4 p241 q241
                                cases e241
                                replace p241 := eq_true p241
                                replace q241 := eq_true q241
                                go_wp2
                                go_roundg k4
                                case measure => have := HK1.out; have := HJ1.out; have := HJ4.out; have := HK4.out; omega
                                case rel => exact ⟨(wrap64 (x4_4 + 1)), (by first | rfl | (simp; done) | (simp [*]; done)), H', ⟨by have := HK1.out; have := HJ1.out; have := HJ4.out; have := HK4.out; omega⟩, by repeat (first | exact Drawn0.refl _ | apply Drawn0.step)⟩
                            · rw [if_neg c15] at H
                              exact absurd H (by simp)
                          · rw [if_neg c14] at H
                            have c14b0 : decide (x4_4 < (((rd_T25 l0 x3_1).f4).length : Int)) = false := decide_eq_false c14
                            clear c14
                            have H' := Aside0.mk H
                            clear H
                            have p239 : 0 ≤ (x3_1 : Int) := of_decide_eq_true (by first | (with_reducible assumption) | assumption)
                            have q239 : x3_1 < (l0.length : Int) := of_decide_eq_true (by first | (with_reducible assumption) | assumption)
                            obtain ⟨ad239, A239_4, c239_4, e239, hx239_0, hx239_1, hx239_2, hx239_3, hx239_4, hl239_4, hi239_4⟩ := at_T25 HR0.out x3_1 p239 q239
                            cases e239
                            have HR239_4 := Aside0.mk hi239_4
                            have HC239_4 := Aside0.mk hl239_4
                            clear hi239_4 hl239_4
                            replace p239 := eq_true p239
                            replace q239 := eq_true q239
                            go_wp2
                            go_roundg k4
                            case measure => have := HK1.out; have := HJ1.out; have := HJ4.out; have := HK4.out; omega
                            case rel => exact ⟨(wrap64 (x3_1 + 1)), (by first | rfl | (simp; done) | (simp [*]; done)), H', ⟨by have := HK1.out; have := HJ1.out; have := HJ4.out; have := HK4.out; omega⟩, by repeat (first | exact Drawn0.refl _ | apply Drawn0.step)⟩
                        · rw [if_neg c13] at H
                          exact absurd H (by simp)
                      · rw [if_neg c12] at H
                        exact absurd H (by simp)
          · replace c4 := Bool.eq_false_iff.mpr c4
            subst c4
            have H1 : (some (decide ((l0.length : Int) ≤ 80))) = some r := by rw [if_neg (show ¬ (false = true) by decide)] at H; exact H
            clear H
            have H := H1
            clear H1
            obtain rfl := Option.some.inj H
            go_wp2
            go_ret
            exact ⟨by first | rfl | (simp; done) | (simp [*]; done), by repeat (first | exact Drawn0.refl _ | apply Drawn0.step)⟩

end Go.Proofs.Ytdelccahgchadaa.P
