/- What the law PrintBlanks rests on, part 5. -/
import Derived.Test.YtdelccahgchadaaKPrintBlanks3
set_option linter.unusedVariables false
set_option linter.unusedSimpArgs false
section
namespace Go.Proofs.Ytdelccahgchadaa.P
open Go.RowKit Go.Proofs.YtdelccahgchadaaW.PrintWords Go.Proofs.YtdelccahgchadaaW.PrintLast Go.Proofs.YtdelccahgchadaaW.PrintMore
attribute [local go_sem] max2_int min2_int max_two min_two max_three min_three max_four min_four   
set_option linter.unusedVariables false
set_option linter.unusedSimpArgs false
mutual
def tree_may.j0 : Nat → Bool → Bool → Int → ByteArray → ByteArray → ByteArray → List ByteArray → Option (Bool)
 | 0, _, _, _, _, _, _, _ => none
 | k + 1, x3, x4, x599000, x599001, x599002, x599003, x599004 => if x599000 = 1 then (if x4 = true then (if x599003.toList = ([] : List UInt8) then (if x3 = true then (some false) else (if (x599004.length : Int) ≤ 100 then ((slices_ContainsFunc_string_string.f k x599004).bind fun t599 => (some (!t599))) else (some false))) else (some false)) else (some false)) else (if x599000 = 2 then (tree_may.j1 k x3 x4 x599000 (x599000 == 2) x599000 x599001 x599002 x599003 x599004) else (if x599000 = 5 then (tree_may.j1 k x3 x4 x599000 (x599000 == 5) x599000 x599001 x599002 x599003 x599004) else (tree_may.j1 k x3 x4 x599000 (x599000 == 6) x599000 x599001 x599002 x599003 x599004)))
def tree_may.j1 : Nat → Bool → Bool → Int → Bool → Int → ByteArray → ByteArray → ByteArray → List ByteArray → Option (Bool)
 | 0, _, _, _, _, _, _, _, _, _ => none
 | k + 1, x3, x4, x18, x43, x599000, x599001, x599002, x599003, x599004 => if x43 = true then (if x4 = true then (if x3 = true then ((tree_is.f k x599003 2).bind fun t600 => (some t600)) else (some false)) else (some false)) else (if x18 = 7 then (if x4 = true then (if x3 = true then ((tree_is.f k x599003 3).bind fun t601 => (some t601)) else (some false)) else (some false)) else (if x18 = 8 then (if x4 = true then (if x3 = true then (some (x599003.toList == ([] : List UInt8))) else (some false)) else (some false)) else (if x18 = 3 then (if x3 = true then (if x599003.toList = ([] : List UInt8) then ((tree_verb.f k x599001).bind fun t602 => (if t602 = true then ((tree_adv.f x599002 (⟨#[39, 47, 92, 96]⟩ : ByteArray)).bind fun t603 => (some t603)) else (some false))) else (some false)) else (some false)) else (if x18 = 4 then (if x3 = true then (if x599003.toList = ([] : List UInt8) then ((tree_verb.f k x599001).bind fun t604 => (if t604 = true then ((tree_adv.f x599002 (⟨#[39, 46]⟩ : ByteArray)).bind fun t605 => (some t605)) else (some false))) else (some false)) else (some false)) else (some false)))))
end
def tree_may.f (k : Nat) (a0_0 : Int) (a0_1 : ByteArray) (a0_2 : ByteArray) (a0_3 : ByteArray) (l0_4 : List ByteArray) : Option (Bool) := if a0_1.toList = ([] : List UInt8) then (tree_may.j0 k ((l0_4.length : Int) == 0) (a0_2.toList == ([] : List UInt8)) a0_0 a0_1 a0_2 a0_3 l0_4) else (tree_may.j0 k ((l0_4.length : Int) == 0) false a0_0 a0_1 a0_2 a0_3 l0_4)
theorem tree_may.mono_l : ∀ k, (∀ y0 y1 y2 y3 y4 y5 y6, LeO (tree_may.j0 k y0 y1 y2 y3 y4 y5 y6) (tree_may.j0 (k + 1) y0 y1 y2 y3 y4 y5 y6)) ∧ (∀ y0 y1 y2 y3 y4 y5 y6 y7 y8, LeO (tree_may.j1 k y0 y1 y2 y3 y4 y5 y6 y7 y8) (tree_may.j1 (k + 1) y0 y1 y2 y3 y4 y5 y6 y7 y8))
 | 0 => ⟨fun _ _ _ _ _ _ _ r h => by simp [tree_may.j0] at h, fun _ _ _ _ _ _ _ _ _ r h => by simp [tree_may.j1] at h⟩
 | k + 1 => by
  obtain ⟨ih0, ih1⟩ := tree_may.mono_l k
  refine ⟨?_, ?_⟩
  ·intro y0 y1 y2 y3 y4 y5 y6
   unfold tree_may.j0
   with_reducible repeat' first
   | exact ih0 _ _ _ _ _ _ _
   | exact ih1 _ _ _ _ _ _ _ _ _
   | exact slices_ContainsFunc_string_string.mono _ _
   | exact tree_is.mono _ _ _
   | exact tree_verb.mono _ _
   | exact LeO.refl _
   | exact LeO.none _
   | refine LeO.ite ?_ ?_
   | refine LeO.bind ?_ (fun _ => ?_)
  ·intro y0 y1 y2 y3 y4 y5 y6 y7 y8
   unfold tree_may.j1
   with_reducible repeat' first
   | exact ih0 _ _ _ _ _ _ _
   | exact ih1 _ _ _ _ _ _ _ _ _
   | exact slices_ContainsFunc_string_string.mono _ _
   | exact tree_is.mono _ _ _
   | exact tree_verb.mono _ _
   | exact LeO.refl _
   | exact LeO.none _
   | refine LeO.ite ?_ ?_
   | refine LeO.bind ?_ (fun _ => ?_)
theorem tree_may.mono : ∀ a0 a1 a2 a3 a4 k, LeO (tree_may.f k a0 a1 a2 a3 a4) (tree_may.f (k + 1) a0 a1 a2 a3 a4) := by
 intro a0 a1 a2 a3 a4 k
 obtain ⟨ih0, ih1⟩ := tree_may.mono_l k
 unfold tree_may.f
 with_reducible repeat' first
   | exact ih0 _ _ _ _ _ _ _
   | exact ih1 _ _ _ _ _ _ _ _ _
   | exact slices_ContainsFunc_string_string.mono _ _
   | exact tree_is.mono _ _ _
   | exact tree_verb.mono _ _
   | exact LeO.refl _
   | exact LeO.none _
   | refine LeO.ite ?_ ?_
   | refine LeO.bind ?_ (fun _ => ?_)
set_option maxHeartbeats 8000000 in
set_option maxRecDepth 100000 in
theorem tree_may.calls (k : Nat) (a0_0 : Int) (a0_1 : ByteArray) (a0_2 : ByteArray) (a0_3 : ByteArray) (A0_4 : Option Addr) (c0_4 : Nat) (l0_4 : List ByteArray) (r : Bool) (w : World) (hr0_4 : Kd.C Kd.string w A0_4 l0_4.length l0_4) (hc0_4 : l0_4.length ≤ c0_4) (h : tree_may.f k a0_0 a0_1 a0_2 a0_3 l0_4 = some r) :
  Calls Try.prog 42 #[.agg #[.int .i64 a0_0, .string a0_1, .string a0_2, .string a0_3, .slice A0_4 l0_4.length c0_4]] w fun e w' => e = .returned (.bool r) ∧ Below w.heap.size w w' := by
 have hu25 := Try.underlying25
 have HR0_4 := am hr0_4
 have HC0_4 := am hc0_4
 clear hr0_4 hc0_4
 have HB := am (Below.refl w.heap.size w)
 unfold tree_may.f at h
 have H := h
 clear h
 have HC2 := am H
 clear H
 go_enter Try.func42, Try.ntmps42
 go_upto_region 2 with (first | ((with_reducible refine gD 1 rfl ?_); (try (refine gate_guard (by rfl) ?_; dsimp only)); refine bx 1 #[.int .i64 a0_0, .string a0_1, .string a0_2, .string a0_3, .slice A0_4 l0_4.length c0_4] 25 ?_; intro gb598 hg w3 hbox hb; have BK598 := am hbox; have GW598 := am (geL hg (kL HB)); replace HB := am (below_step (kL HB) hb); have GE598 := GW598; clear hb hbox hg; obtain ⟨hcz4_0, hcz4_1, hcz4_2, hcz4_3, hcz4_4, hfz4_0, hfz4_1, hfz4_2, hfz4_3, hfz4_4⟩ := bk5 BK598.out))
 (try simp only [Act.put, zT, z0, zS])
 go_cut [4] (fun v4 wc => ∃ (kq : Nat) (x4_1 : Bool), v4 = .bool x4_1 ∧ Aside0 (tree_may.j0 kq ((l0_4.length : Int) == 0) x4_1 a0_0 a0_1 a0_2 a0_3 l0_4 = some r) ∧ Aside0 (kq ≤ k) ∧ Aside0 (wc.heap[gb598]? = some (.cells #[.int .i64 a0_0, .string a0_1, .string a0_2, .string a0_3, (.slice A0_4 l0_4.length c0_4)] 25 (0, 0))) ∧ Aside0 (Below w.heap.size w wc))
 case first =>
  have H := HC2.out
  clear HC2
  by_cases c5 : a0_1.toList = ([] : List UInt8)
  ·rw [if_pos c5] at H
   have c5b0 := eT c5
   have c5b1 := nF c5
   clear c5
   (first | rw [c5b0] | (simp only [i64_w, i32_w]; rw [c5b0]) | skip)
   have H' := am H
   clear H
   obtain ⟨hcz6_0, hcz6_1, hcz6_2, hcz6_3, hcz6_4, hfz6_0, hfz6_1, hfz6_2, hfz6_3, hfz6_4⟩ := bk5 BK598.out
   go_wp2
   go_meet
   case rel => exact ⟨_, ((a0_2.toList == ([] : List UInt8))), yS, H', ⟨yO⟩, ⟨kB BK598⟩, ⟨(kL HB)⟩⟩
  ·rw [if_neg c5] at H
   have c5b0 := eF c5
   have c5b1 := nT c5
   (first | rw [c5b0] | (simp only [i64_w, i32_w]; rw [c5b0]) | skip)
   have H' := am H
   clear H
   obtain ⟨hcz7_0, hcz7_1, hcz7_2, hcz7_3, hcz7_4, hfz7_0, hfz7_1, hfz7_2, hfz7_3, hfz7_4⟩ := bk5 BK598.out
   go_wp2
   go_meet
   case rel => exact ⟨_, (false), yS, H', ⟨yO⟩, ⟨kB BK598⟩, ⟨(kL HB)⟩⟩
 case rest =>
  clear HC2
  try clear p2
  try clear c4
  try clear c5
  try clear c5b0
  try clear c5b1
  try clear hcz4_0 hcz4_1 hcz4_2 hcz4_3 hcz4_4 hfz4_0 hfz4_1 hfz4_2 hfz4_3 hfz4_4
  try clear hcz6_0 hcz6_1 hcz6_2 hcz6_3 hcz6_4 hfz6_0 hfz6_1 hfz6_2 hfz6_3 hfz6_4
  try clear hcz7_0 hcz7_1 hcz7_2 hcz7_3 hcz7_4 hfz7_0 hfz7_1 hfz7_2 hfz7_3 hfz7_4
  obtain ⟨kq, x4_1, rfl, HA, HJ1, BK598, HB⟩ := hcut
  cases kq with
  | zero => exact absurd HA.out (by simp [tree_may.j0])
  | succ kj1 =>
   have H := HA.out
   clear HA
   simp only [tree_may.j0] at H
   by_cases c8 : a0_0 = 1
   ·rw [if_pos c8] at H
    have c8b0 := eT c8
    have c8b1 := nF c8
    clear c8
    by_cases c9 : x4_1 = true
    ·subst c9
     rw [if_pos rfl] at H
     by_cases c10 : a0_3.toList = ([] : List UInt8)
     ·rw [if_pos c10] at H
      have c10b0 := eT c10
      have c10b1 := nF c10
      clear c10
      by_cases c11 : ((l0_4.length : Int) == 0) = true
      ·rw [if_pos c11] at H
       have c11b0 : ((l0_4.length : Int) == 0) = true := c11
       (try (have c11b1 : decide ((l0_4.length : Int) = 0) = true := by simpa using c11))
       (try (have c11b2 : ((l0_4.length : Int) == 0) = true := by simpa using c11))
       clear c11
       obtain rfl := Option.some.inj H
       obtain ⟨hcz12_0, hcz12_1, hcz12_2, hcz12_3, hcz12_4, hfz12_0, hfz12_1, hfz12_2, hfz12_3, hfz12_4⟩ := bk5 BK598.out
       go_wp2
       go_ret
       exact ⟨yE, (kL HB)⟩
      ·rw [if_neg c11] at H
       have c11b0 : ((l0_4.length : Int) == 0) = false := by simpa using c11
       (try (have c11b1 : decide ((l0_4.length : Int) = 0) = false := by simpa using c11))
       (try (have c11b2 : ((l0_4.length : Int) == 0) = false := by simpa using c11))
       (try (have c11b3 : ¬ ((l0_4.length : Int) = 0) := by simpa using c11))
       clear c11
       by_cases c13 : (l0_4.length : Int) ≤ 100
       ·rw [if_pos c13] at H
        have c13b0 : decide ((l0_4.length : Int) ≤ 100) = true := decide_eq_true c13
        have c13b1 : decide (l0_4.length ≤ 100) = true := decide_eq_true (by omega)
        clear c13
        obtain ⟨t599, A14, H⟩ := bO H
        try dsimp only at H
        obtain rfl := Option.some.inj H
        obtain ⟨hcz15_0, hcz15_1, hcz15_2, hcz15_3, hcz15_4, hfz15_0, hfz15_1, hfz15_2, hfz15_3, hfz15_4⟩ := bk5 BK598.out
        go_wp2_with (go_at_call 55; (with_reducible refine (slices_ContainsFunc_string_string.calls _ _ _ _ _ _ ?side1 ?side2 A14.out).mono ?_); (case side1 => exact Kd.C_below HR0_4.out (kL HB)); (case side2 => exact HC0_4.out); rintro e w16 ⟨rfl, hb⟩; replace BK598 := am (bB (kB BK598) hb); replace HB := am (below_step (kL HB) hb); (try clear hb))
        go_ret
        exact ⟨yE, (kL HB)⟩
       ·rw [if_neg c13] at H
        have c13b0 : decide ((l0_4.length : Int) ≤ 100) = false := decide_eq_false c13
        have c13b1 : decide (l0_4.length ≤ 100) = false := decide_eq_false (by omega)
        clear c13
        obtain rfl := Option.some.inj H
        obtain ⟨hcz17_0, hcz17_1, hcz17_2, hcz17_3, hcz17_4, hfz17_0, hfz17_1, hfz17_2, hfz17_3, hfz17_4⟩ := bk5 BK598.out
        go_wp2
        go_ret
        exact ⟨yE, (kL HB)⟩
     ·rw [if_neg c10] at H
      have c10b0 := eF c10
      have c10b1 := nT c10
      obtain rfl := Option.some.inj H
      obtain ⟨hcz18_0, hcz18_1, hcz18_2, hcz18_3, hcz18_4, hfz18_0, hfz18_1, hfz18_2, hfz18_3, hfz18_4⟩ := bk5 BK598.out
      go_wp2
      go_ret
      exact ⟨yE, (kL HB)⟩
    ·replace c9 := Bool.eq_false_iff.mpr c9
     subst c9
     rw [if_neg (show ¬ (false = true) by decide)] at H
     obtain rfl := Option.some.inj H
     obtain ⟨hcz19_0, hcz19_1, hcz19_2, hcz19_3, hcz19_4, hfz19_0, hfz19_1, hfz19_2, hfz19_3, hfz19_4⟩ := bk5 BK598.out
     go_wp2
     go_ret
     exact ⟨yE, (kL HB)⟩
   ·rw [if_neg c8] at H
    have c8b0 := eF c8
    have c8b1 := nT c8
    have HC20 := am H
    clear H
    obtain ⟨hcz21_0, hcz21_1, hcz21_2, hcz21_3, hcz21_4, hfz21_0, hfz21_1, hfz21_2, hfz21_3, hfz21_4⟩ := bk5 BK598.out
    go_upto_if 43 with (fail)
    go_cut [43] (fun v43 wc => ∃ (kq : Nat) (x43_19 : Bool), v43 = .bool x43_19 ∧ Aside0 (tree_may.j1 kq ((l0_4.length : Int) == 0) x4_1 a0_0 x43_19 a0_0 a0_1 a0_2 a0_3 l0_4 = some r) ∧ Aside0 (kq ≤ kj1) ∧ Aside0 (wc.heap[gb598]? = some (.cells #[.int .i64 a0_0, .string a0_1, .string a0_2, .string a0_3, (.slice A0_4 l0_4.length c0_4)] 25 (0, 0))) ∧ Aside0 (Below w.heap.size w wc))
    case first =>
     have H := HC20.out
     clear HC20
     by_cases c22 : a0_0 = 2
     ·rw [if_pos c22] at H
      have c22b0 := eT c22
      have c22b1 := nF c22
      clear c22
      (first | rw [c22b0] | (simp only [i64_w, i32_w]; rw [c22b0]) | skip)
      have H' := am H
      clear H
      go_wp2
      go_meet
      case rel => exact ⟨_, ((a0_0 == 2)), yS, H', ⟨by have := HJ1.out; first | omega | exact Nat.le_refl _⟩, ⟨kB BK598⟩, ⟨(kL HB)⟩⟩
     ·rw [if_neg c22] at H
      have c22b0 := eF c22
      have c22b1 := nT c22
      (first | rw [c22b0] | (simp only [i64_w, i32_w]; rw [c22b0]) | skip)
      by_cases c23 : a0_0 = 5
      ·rw [if_pos c23] at H
       have c23b0 := eT c23
       have c23b1 := nF c23
       clear c23
       have H' := am H
       clear H
       go_wp2
       go_meet
       case rel => exact ⟨_, ((a0_0 == 5)), yS, H', ⟨by have := HJ1.out; first | omega | exact Nat.le_refl _⟩, ⟨kB BK598⟩, ⟨(kL HB)⟩⟩
      ·rw [if_neg c23] at H
       have c23b0 := eF c23
       have c23b1 := nT c23
       have H' := am H
       clear H
       go_wp2
       go_meet
       case rel => exact ⟨_, ((a0_0 == 6)), yS, H', ⟨by have := HJ1.out; first | omega | exact Nat.le_refl _⟩, ⟨kB BK598⟩, ⟨(kL HB)⟩⟩
    case rest =>
     clear HC20
     try clear c1
     try clear c2
     try clear p2
     try clear c4
     try clear c5
     try clear c5b0
     try clear c5b1
     try clear c8
     try clear c8b0
     try clear c8b1
     try clear c9
     try clear c10
     try clear c10b0
     try clear c10b1
     try clear c11
     try clear c11b0
     try clear c11b1
     try clear c11b2
     try clear c13
     try clear c13b0
     try clear c13b1
     try clear c22
     try clear c22b0
     try clear c22b1
     try clear c23
     try clear c23b0
     try clear c23b1
     try clear hcz12_0 hcz12_1 hcz12_2 hcz12_3 hcz12_4 hfz12_0 hfz12_1 hfz12_2 hfz12_3 hfz12_4
     try clear hcz15_0 hcz15_1 hcz15_2 hcz15_3 hcz15_4 hfz15_0 hfz15_1 hfz15_2 hfz15_3 hfz15_4
     try clear hcz17_0 hcz17_1 hcz17_2 hcz17_3 hcz17_4 hfz17_0 hfz17_1 hfz17_2 hfz17_3 hfz17_4
     try clear hcz18_0 hcz18_1 hcz18_2 hcz18_3 hcz18_4 hfz18_0 hfz18_1 hfz18_2 hfz18_3 hfz18_4
     try clear hcz19_0 hcz19_1 hcz19_2 hcz19_3 hcz19_4 hfz19_0 hfz19_1 hfz19_2 hfz19_3 hfz19_4
     try clear hcz21_0 hcz21_1 hcz21_2 hcz21_3 hcz21_4 hfz21_0 hfz21_1 hfz21_2 hfz21_3 hfz21_4
     try clear hcz4_0 hcz4_1 hcz4_2 hcz4_3 hcz4_4 hfz4_0 hfz4_1 hfz4_2 hfz4_3 hfz4_4
     try clear hcz6_0 hcz6_1 hcz6_2 hcz6_3 hcz6_4 hfz6_0 hfz6_1 hfz6_2 hfz6_3 hfz6_4
     try clear hcz7_0 hcz7_1 hcz7_2 hcz7_3 hcz7_4 hfz7_0 hfz7_1 hfz7_2 hfz7_3 hfz7_4
     try clear p2
     obtain ⟨kq, x43_19, rfl, HA, HJ19, BK598, HB⟩ := hcut
     cases kq with
     | zero => exact absurd HA.out (by simp [tree_may.j1])
     | succ kj19 =>
      have H := HA.out
      clear HA
      simp only [tree_may.j1] at H
      by_cases c24 : x43_19 = true
      ·subst c24
       rw [if_pos rfl] at H
       by_cases c25 : x4_1 = true
       ·subst c25
        rw [if_pos rfl] at H
        by_cases c26 : ((l0_4.length : Int) == 0) = true
        ·rw [if_pos c26] at H
         have c26b0 : ((l0_4.length : Int) == 0) = true := c26
         (try (have c26b1 : decide ((l0_4.length : Int) = 0) = true := by simpa using c26))
         (try (have c26b2 : ((l0_4.length : Int) == 0) = true := by simpa using c26))
         clear c26
         obtain ⟨t600, A27, H⟩ := bO H
         try dsimp only at H
         obtain rfl := Option.some.inj H
         obtain ⟨hcz28_0, hcz28_1, hcz28_2, hcz28_3, hcz28_4, hfz28_0, hfz28_1, hfz28_2, hfz28_3, hfz28_4⟩ := bk5 BK598.out
         go_wp2_with (go_at_call 58; (with_reducible refine (tree_is.calls _ _ _ _ _ A27.out).mono ?_); rintro e w29 ⟨rfl, hb⟩; replace BK598 := am (bB (kB BK598) hb); replace HB := am (below_step (kL HB) hb); (try clear hb))
         go_ret
         exact ⟨yE, (kL HB)⟩
        ·rw [if_neg c26] at H
         have c26b0 : ((l0_4.length : Int) == 0) = false := by simpa using c26
         (try (have c26b1 : decide ((l0_4.length : Int) = 0) = false := by simpa using c26))
         (try (have c26b2 : ((l0_4.length : Int) == 0) = false := by simpa using c26))
         (try (have c26b3 : ¬ ((l0_4.length : Int) = 0) := by simpa using c26))
         clear c26
         obtain rfl := Option.some.inj H
         go_wp2
         go_ret
         exact ⟨yE, (kL HB)⟩
       ·replace c25 := Bool.eq_false_iff.mpr c25
        subst c25
        rw [if_neg (show ¬ (false = true) by decide)] at H
        obtain rfl := Option.some.inj H
        go_wp2
        go_ret
        exact ⟨yE, (kL HB)⟩
      ·replace c24 := Bool.eq_false_iff.mpr c24
       subst c24
       rw [if_neg (show ¬ (false = true) by decide)] at H
       by_cases c30 : a0_0 = 7
       ·rw [if_pos c30] at H
        have c30b0 := eT c30
        have c30b1 := nF c30
        clear c30
        by_cases c31 : x4_1 = true
        ·subst c31
         rw [if_pos rfl] at H
         by_cases c32 : ((l0_4.length : Int) == 0) = true
         ·rw [if_pos c32] at H
          have c32b0 : ((l0_4.length : Int) == 0) = true := c32
          (try (have c32b1 : decide ((l0_4.length : Int) = 0) = true := by simpa using c32))
          (try (have c32b2 : ((l0_4.length : Int) == 0) = true := by simpa using c32))
          clear c32
          obtain ⟨t601, A33, H⟩ := bO H
          try dsimp only at H
          obtain rfl := Option.some.inj H
          obtain ⟨hcz34_0, hcz34_1, hcz34_2, hcz34_3, hcz34_4, hfz34_0, hfz34_1, hfz34_2, hfz34_3, hfz34_4⟩ := bk5 BK598.out
          go_wp2_with (go_at_call 58; (with_reducible refine (tree_is.calls _ _ _ _ _ A33.out).mono ?_); rintro e w35 ⟨rfl, hb⟩; replace BK598 := am (bB (kB BK598) hb); replace HB := am (below_step (kL HB) hb); (try clear hb))
          go_ret
          exact ⟨yE, (kL HB)⟩
         ·rw [if_neg c32] at H
          have c32b0 : ((l0_4.length : Int) == 0) = false := by simpa using c32
          (try (have c32b1 : decide ((l0_4.length : Int) = 0) = false := by simpa using c32))
          (try (have c32b2 : ((l0_4.length : Int) == 0) = false := by simpa using c32))
          (try (have c32b3 : ¬ ((l0_4.length : Int) = 0) := by simpa using c32))
          clear c32
          obtain rfl := Option.some.inj H
          go_wp2
          go_ret
          exact ⟨yE, (kL HB)⟩
        ·replace c31 := Bool.eq_false_iff.mpr c31
         subst c31
         rw [if_neg (show ¬ (false = true) by decide)] at H
         obtain rfl := Option.some.inj H
         go_wp2
         go_ret
         exact ⟨yE, (kL HB)⟩
       ·rw [if_neg c30] at H
        have c30b0 := eF c30
        have c30b1 := nT c30
        by_cases c36 : a0_0 = 8
        ·rw [if_pos c36] at H
         have c36b0 := eT c36
         have c36b1 := nF c36
         clear c36
         by_cases c37 : x4_1 = true
         ·subst c37
          rw [if_pos rfl] at H
          by_cases c38 : ((l0_4.length : Int) == 0) = true
          ·rw [if_pos c38] at H
           have c38b0 : ((l0_4.length : Int) == 0) = true := c38
           (try (have c38b1 : decide ((l0_4.length : Int) = 0) = true := by simpa using c38))
           (try (have c38b2 : ((l0_4.length : Int) == 0) = true := by simpa using c38))
           clear c38
           obtain rfl := Option.some.inj H
           obtain ⟨hcz39_0, hcz39_1, hcz39_2, hcz39_3, hcz39_4, hfz39_0, hfz39_1, hfz39_2, hfz39_3, hfz39_4⟩ := bk5 BK598.out
           go_wp2
           go_ret
           exact ⟨yE, (kL HB)⟩
          ·rw [if_neg c38] at H
           have c38b0 : ((l0_4.length : Int) == 0) = false := by simpa using c38
           (try (have c38b1 : decide ((l0_4.length : Int) = 0) = false := by simpa using c38))
           (try (have c38b2 : ((l0_4.length : Int) == 0) = false := by simpa using c38))
           (try (have c38b3 : ¬ ((l0_4.length : Int) = 0) := by simpa using c38))
           clear c38
           obtain rfl := Option.some.inj H
           go_wp2
           go_ret
           exact ⟨yE, (kL HB)⟩
         ·replace c37 := Bool.eq_false_iff.mpr c37
          subst c37
          rw [if_neg (show ¬ (false = true) by decide)] at H
          obtain rfl := Option.some.inj H
          go_wp2
          go_ret
          exact ⟨yE, (kL HB)⟩
        ·rw [if_neg c36] at H
         have c36b0 := eF c36
         have c36b1 := nT c36
         by_cases c40 : a0_0 = 3
         ·rw [if_pos c40] at H
          have c40b0 := eT c40
          have c40b1 := nF c40
          clear c40
          by_cases c41 : ((l0_4.length : Int) == 0) = true
          ·rw [if_pos c41] at H
           have c41b0 : ((l0_4.length : Int) == 0) = true := c41
           (try (have c41b1 : decide ((l0_4.length : Int) = 0) = true := by simpa using c41))
           (try (have c41b2 : ((l0_4.length : Int) == 0) = true := by simpa using c41))
           clear c41
           by_cases c42 : a0_3.toList = ([] : List UInt8)
           ·rw [if_pos c42] at H
            have c42b0 := eT c42
            have c42b1 := nF c42
            clear c42
            obtain ⟨t602, A43, H⟩ := bO H
            try dsimp only at H
            by_cases c44 : t602 = true
            ·subst c44
             rw [if_pos rfl] at H
             obtain ⟨t603, A45, H⟩ := bO H
             try dsimp only at H
             obtain rfl := Option.some.inj H
             obtain ⟨hcz46_0, hcz46_1, hcz46_2, hcz46_3, hcz46_4, hfz46_0, hfz46_1, hfz46_2, hfz46_3, hfz46_4⟩ := bk5 BK598.out
             go_wp2_with (first | (go_at_call 59; (with_reducible refine (tree_verb.calls _ _ _ _ A43.out).mono ?_); rintro e w47 ⟨rfl, hb⟩; replace BK598 := am (bB (kB BK598) hb); replace HB := am (below_step (kL HB) hb); (try clear hb); obtain ⟨hcz48_0, hcz48_1, hcz48_2, hcz48_3, hcz48_4, hfz48_0, hfz48_1, hfz48_2, hfz48_3, hfz48_4⟩ := bk5 BK598.out) | (go_at_call 60; (with_reducible refine (tree_adv.calls _ _ _ _ A45.out).mono ?_); rintro e w' ⟨rfl, ⟨nd, rfl⟩⟩))
             go_ret
             exact ⟨yE, (kL HB)⟩
            ·replace c44 := Bool.eq_false_iff.mpr c44
             subst c44
             rw [if_neg (show ¬ (false = true) by decide)] at H
             obtain rfl := Option.some.inj H
             obtain ⟨hcz49_0, hcz49_1, hcz49_2, hcz49_3, hcz49_4, hfz49_0, hfz49_1, hfz49_2, hfz49_3, hfz49_4⟩ := bk5 BK598.out
             go_wp2_with (go_at_call 59; (with_reducible refine (tree_verb.calls _ _ _ _ A43.out).mono ?_); rintro e w50 ⟨rfl, hb⟩; replace BK598 := am (bB (kB BK598) hb); replace HB := am (below_step (kL HB) hb); (try clear hb))
             go_ret
             exact ⟨yE, (kL HB)⟩
           ·rw [if_neg c42] at H
            have c42b0 := eF c42
            have c42b1 := nT c42
            obtain rfl := Option.some.inj H
            obtain ⟨hcz51_0, hcz51_1, hcz51_2, hcz51_3, hcz51_4, hfz51_0, hfz51_1, hfz51_2, hfz51_3, hfz51_4⟩ := bk5 BK598.out
            go_wp2
            go_ret
            exact ⟨yE, (kL HB)⟩
          ·rw [if_neg c41] at H
           have c41b0 : ((l0_4.length : Int) == 0) = false := by simpa using c41
           (try (have c41b1 : decide ((l0_4.length : Int) = 0) = false := by simpa using c41))
           (try (have c41b2 : ((l0_4.length : Int) == 0) = false := by simpa using c41))
           (try (have c41b3 : ¬ ((l0_4.length : Int) = 0) := by simpa using c41))
           clear c41
           obtain rfl := Option.some.inj H
           go_wp2
           go_ret
           exact ⟨yE, (kL HB)⟩
         ·rw [if_neg c40] at H
          have c40b0 := eF c40
          have c40b1 := nT c40
          by_cases c52 : a0_0 = 4
          ·rw [if_pos c52] at H
           have c52b0 := eT c52
           have c52b1 := nF c52
           clear c52
           by_cases c53 : ((l0_4.length : Int) == 0) = true
           ·rw [if_pos c53] at H
            have c53b0 : ((l0_4.length : Int) == 0) = true := c53
            (try (have c53b1 : decide ((l0_4.length : Int) = 0) = true := by simpa using c53))
            (try (have c53b2 : ((l0_4.length : Int) == 0) = true := by simpa using c53))
            clear c53
            by_cases c54 : a0_3.toList = ([] : List UInt8)
            ·rw [if_pos c54] at H
             have c54b0 := eT c54
             have c54b1 := nF c54
             clear c54
             obtain ⟨t604, A55, H⟩ := bO H
             try dsimp only at H
             by_cases c56 : t604 = true
             ·subst c56
              rw [if_pos rfl] at H
              obtain ⟨t605, A57, H⟩ := bO H
              try dsimp only at H
              obtain rfl := Option.some.inj H
              obtain ⟨hcz58_0, hcz58_1, hcz58_2, hcz58_3, hcz58_4, hfz58_0, hfz58_1, hfz58_2, hfz58_3, hfz58_4⟩ := bk5 BK598.out
              go_wp2_with (first | (go_at_call 59; (with_reducible refine (tree_verb.calls _ _ _ _ A55.out).mono ?_); rintro e w59 ⟨rfl, hb⟩; replace BK598 := am (bB (kB BK598) hb); replace HB := am (below_step (kL HB) hb); (try clear hb); obtain ⟨hcz60_0, hcz60_1, hcz60_2, hcz60_3, hcz60_4, hfz60_0, hfz60_1, hfz60_2, hfz60_3, hfz60_4⟩ := bk5 BK598.out) | (go_at_call 60; (with_reducible refine (tree_adv.calls _ _ _ _ A57.out).mono ?_); rintro e w' ⟨rfl, ⟨nd, rfl⟩⟩))
              go_ret
              exact ⟨yE, (kL HB)⟩
             ·replace c56 := Bool.eq_false_iff.mpr c56
              subst c56
              rw [if_neg (show ¬ (false = true) by decide)] at H
              obtain rfl := Option.some.inj H
              obtain ⟨hcz61_0, hcz61_1, hcz61_2, hcz61_3, hcz61_4, hfz61_0, hfz61_1, hfz61_2, hfz61_3, hfz61_4⟩ := bk5 BK598.out
              go_wp2_with (go_at_call 59; (with_reducible refine (tree_verb.calls _ _ _ _ A55.out).mono ?_); rintro e w62 ⟨rfl, hb⟩; replace BK598 := am (bB (kB BK598) hb); replace HB := am (below_step (kL HB) hb); (try clear hb))
              go_ret
              exact ⟨yE, (kL HB)⟩
            ·rw [if_neg c54] at H
             have c54b0 := eF c54
             have c54b1 := nT c54
             obtain rfl := Option.some.inj H
             obtain ⟨hcz63_0, hcz63_1, hcz63_2, hcz63_3, hcz63_4, hfz63_0, hfz63_1, hfz63_2, hfz63_3, hfz63_4⟩ := bk5 BK598.out
             go_wp2
             go_ret
             exact ⟨yE, (kL HB)⟩
           ·rw [if_neg c53] at H
            have c53b0 : ((l0_4.length : Int) == 0) = false := by simpa using c53
            (try (have c53b1 : decide ((l0_4.length : Int) = 0) = false := by simpa using c53))
            (try (have c53b2 : ((l0_4.length : Int) == 0) = false := by simpa using c53))
            (try (have c53b3 : ¬ ((l0_4.length : Int) = 0) := by simpa using c53))
            clear c53
            obtain rfl := Option.some.inj H
            go_wp2
            go_ret
            exact ⟨yE, (kL HB)⟩
          ·rw [if_neg c52] at H
           have c52b0 := eF c52
           have c52b1 := nT c52
           obtain rfl := Option.some.inj H
           go_wp2
           go_ret
           exact ⟨yE, (kL HB)⟩
end Go.Proofs.Ytdelccahgchadaa.P
end
section
namespace Go.Proofs.Ytdelccahgchadaa.P
open Go.RowKit Go.Proofs.YtdelccahgchadaaW.PrintWords Go.Proofs.YtdelccahgchadaaW.PrintLast Go.Proofs.YtdelccahgchadaaW.PrintMore
attribute [local go_sem] max2_int min2_int max_two min_two max_three min_three max_four min_four   
set_option linter.unusedVariables false
set_option linter.unusedSimpArgs false
def tree_head.f (a0_0 : Int) (a0_1 : ByteArray) (a0_2 : ByteArray) (a0_3 : ByteArray) (l0_4 : List ByteArray) : Option (Bool) := if a0_0 = 5 then (some true) else (if a0_0 = 6 then (some true) else (some (a0_0 == 7)))
set_option maxHeartbeats 8000000 in
set_option maxRecDepth 100000 in
theorem tree_head.calls (a0_0 : Int) (a0_1 : ByteArray) (a0_2 : ByteArray) (a0_3 : ByteArray) (A0_4 : Option Addr) (c0_4 : Nat) (l0_4 : List ByteArray) (r : Bool) (w : World) (hr0_4 : Kd.C Kd.string w A0_4 l0_4.length l0_4) (hc0_4 : l0_4.length ≤ c0_4) (h : tree_head.f a0_0 a0_1 a0_2 a0_3 l0_4 = some r) :
  Calls Try.prog 43 #[.agg #[.int .i64 a0_0, .string a0_1, .string a0_2, .string a0_3, .slice A0_4 l0_4.length c0_4]] w fun e w' => e = .returned (.bool r) ∧ Below w.heap.size w w' := by
 have hu25 := Try.underlying25
 have HR0_4 := am hr0_4
 have HC0_4 := am hc0_4
 clear hr0_4 hc0_4
 have HB := am (Below.refl w.heap.size w)
 unfold tree_head.f at h
 have H := h
 clear h
 by_cases c2 : a0_0 = 5
 ·rw [if_pos c2] at H
  have c2b0 := eT c2
  have c2b1 := nF c2
  clear c2
  obtain rfl := Option.some.inj H
  go_enter Try.func43, Try.ntmps43
  go_wp2_with ((with_reducible refine gD 1 rfl ?_); refine bx 1 #[.int .i64 a0_0, .string a0_1, .string a0_2, .string a0_3, .slice A0_4 l0_4.length c0_4] 25 ?_; intro gb606 hg w3 hbox hb; have BK606 := am hbox; have GW606 := am (geL hg (kL HB)); replace HB := am (below_step (kL HB) hb); have GE606 := GW606; clear hb hbox hg; obtain ⟨hcz4_0, hcz4_1, hcz4_2, hcz4_3, hcz4_4, hfz4_0, hfz4_1, hfz4_2, hfz4_3, hfz4_4⟩ := bk5 BK606.out)
  go_ret
  exact ⟨yE, (kL HB)⟩
 ·rw [if_neg c2] at H
  have c2b0 := eF c2
  have c2b1 := nT c2
  by_cases c5 : a0_0 = 6
  ·rw [if_pos c5] at H
   have c5b0 := eT c5
   have c5b1 := nF c5
   clear c5
   obtain rfl := Option.some.inj H
   go_enter Try.func43, Try.ntmps43
   go_wp2_with ((with_reducible refine gD 1 rfl ?_); refine bx 1 #[.int .i64 a0_0, .string a0_1, .string a0_2, .string a0_3, .slice A0_4 l0_4.length c0_4] 25 ?_; intro gb606 hg w6 hbox hb; have BK606 := am hbox; have GW606 := am (geL hg (kL HB)); replace HB := am (below_step (kL HB) hb); have GE606 := GW606; clear hb hbox hg; obtain ⟨hcz7_0, hcz7_1, hcz7_2, hcz7_3, hcz7_4, hfz7_0, hfz7_1, hfz7_2, hfz7_3, hfz7_4⟩ := bk5 BK606.out)
   go_ret
   exact ⟨yE, (kL HB)⟩
  ·rw [if_neg c5] at H
   have c5b0 := eF c5
   have c5b1 := nT c5
   obtain rfl := Option.some.inj H
   go_enter Try.func43, Try.ntmps43
   go_wp2_with ((with_reducible refine gD 1 rfl ?_); refine bx 1 #[.int .i64 a0_0, .string a0_1, .string a0_2, .string a0_3, .slice A0_4 l0_4.length c0_4] 25 ?_; intro gb606 hg w8 hbox hb; have BK606 := am hbox; have GW606 := am (geL hg (kL HB)); replace HB := am (below_step (kL HB) hb); have GE606 := GW606; clear hb hbox hg; obtain ⟨hcz9_0, hcz9_1, hcz9_2, hcz9_3, hcz9_4, hfz9_0, hfz9_1, hfz9_2, hfz9_3, hfz9_4⟩ := bk5 BK606.out)
   go_ret
   exact ⟨yE, (kL HB)⟩
mutual
def tree_May.j0 : Nat → List (S25) → Bool → Option (Bool)
 | 0, _, _ => none
 | k + 1, x0, x24 => if x24 = true then (some false) else (tree_May.l0 k x0 (x0.length : Int) 0)
def tree_May.l0 : Nat → List (S25) → Int → Int → Option (Bool)
 | 0, _, _, _ => none
 | k + 1, x25, x26, x27 => if x27 < x26 then (if 0 ≤ x27 then (if x27 < (x25.length : Int) then ((tree_may.f k ((rd_T25 x25 x27).f0) ((rd_T25 x25 x27).f1) ((rd_T25 x25 x27).f2) ((rd_T25 x25 x27).f3) ((rd_T25 x25 x27).f4)).bind fun t612 => (if t612 = true then ((tree_head.f ((rd_T25 x25 x27).f0) ((rd_T25 x25 x27).f1) ((rd_T25 x25 x27).f2) ((rd_T25 x25 x27).f3) ((rd_T25 x25 x27).f4)).bind fun t613 => (if t613 = true then (if x27 > 0 then (some false) else (tree_May.l0 k x25 x26 (wrap64 (x27 + 1)))) else (tree_May.l0 k x25 x26 (wrap64 (x27 + 1))))) else (some false))) else (none)) else (none)) else (some true)
end
def tree_May.f (k : Nat) (l0 : List (S25)) : Option (Bool) := (tree_End.f k l0 0).bind fun bt607 => (if bt607.2 = true then (if bt607.1 = (l0.length : Int) then ((tree_Depth.f k l0).bind fun t609 => (tree_May.j0 k l0 (decide (t609 > 40)))) else (tree_May.j0 k l0 true)) else (tree_May.j0 k l0 true))
theorem tree_May.mono_l : ∀ k, (∀ y0 y1, LeO (tree_May.j0 k y0 y1) (tree_May.j0 (k + 1) y0 y1)) ∧ (∀ y0 y1 y2, LeO (tree_May.l0 k y0 y1 y2) (tree_May.l0 (k + 1) y0 y1 y2))
 | 0 => ⟨fun _ _ r h => by simp [tree_May.j0] at h, fun _ _ _ r h => by simp [tree_May.l0] at h⟩
 | k + 1 => by
  obtain ⟨ih0, ih1⟩ := tree_May.mono_l k
  refine ⟨?_, ?_⟩
  ·intro y0 y1
   unfold tree_May.j0
   with_reducible repeat' first
   | exact ih0 _ _
   | exact ih1 _ _ _
   | exact tree_Depth.mono _ _
   | exact tree_End.mono _ _ _
   | exact tree_may.mono _ _ _ _ _ _
   | exact LeO.refl _
   | exact LeO.none _
   | refine LeO.ite ?_ ?_
   | refine LeO.bind ?_ (fun _ => ?_)
  ·intro y0 y1 y2
   unfold tree_May.l0
   with_reducible repeat' first
   | exact ih0 _ _
   | exact ih1 _ _ _
   | exact tree_Depth.mono _ _
   | exact tree_End.mono _ _ _
   | exact tree_may.mono _ _ _ _ _ _
   | exact LeO.refl _
   | exact LeO.none _
   | refine LeO.ite ?_ ?_
   | refine LeO.bind ?_ (fun _ => ?_)
theorem tree_May.mono : ∀ a0 k, LeO (tree_May.f k a0) (tree_May.f (k + 1) a0) := by
 intro a0 k
 obtain ⟨ih0, ih1⟩ := tree_May.mono_l k
 unfold tree_May.f
 with_reducible repeat' first
   | exact ih0 _ _
   | exact ih1 _ _ _
   | exact tree_Depth.mono _ _
   | exact tree_End.mono _ _ _
   | exact tree_may.mono _ _ _ _ _ _
   | exact LeO.refl _
   | exact LeO.none _
   | refine LeO.ite ?_ ?_
   | refine LeO.bind ?_ (fun _ => ?_)
set_option maxHeartbeats 8000000 in
set_option maxRecDepth 100000 in
theorem tree_May.calls (k : Nat) (A0 : Option Addr) (c0 : Nat) (l0 : List (S25)) (r : Bool) (w : World) (hr0 : Kd.C k25 w A0 l0.length l0) (hc0 : l0.length ≤ c0) (h : tree_May.f k l0 = some r) :
  Calls Try.prog 28 #[.slice A0 l0.length c0] w fun e w' => e = .returned (.bool r) ∧ Below w.heap.size w w' := by
 have hu25 := Try.underlying25
 have HR0 := am hr0
 have HC0 := am hc0
 clear hr0 hc0
 have HB := am (Below.refl w.heap.size w)
 unfold tree_May.f at h
 have H := h
 clear h
 obtain ⟨⟨t607, t608⟩, A2, H⟩ := bO H
 try dsimp only at H
 have HC3 := am H
 clear H
 go_enter Try.func28, Try.ntmps28
 go_upto_region 2 with (first | ((with_reducible refine gC 19 rfl ?_); refine gL (some 9) Try.func19 #[.slice A0 l0.length c0, .int .i64 0] ?_; (with_reducible refine (tree_End.calls _ _ _ _ _ _ _ _ ?side1 ?side2 A2.out).mono ?_); (case side1 => repeat (first | exact HR0.out | (with_reducible refine Kd.C_alloc ?_ _) | (with_reducible refine Kd.C_drewN ?_ _) | (with_reducible refine Kd.C_drew ?_))); (case side2 => exact HC0.out); rintro e w4 ⟨rfl, hb⟩; refine ⟨_, rfl, ?_⟩; replace HB := am (below_step (kL HB) hb); (try clear hb)))
 (try simp only [Act.put, zT, z0, zS])
 go_cut [24] (fun v24 wc => ∃ (kq : Nat) (x24_2 : Bool), v24 = .bool x24_2 ∧ Aside0 (tree_May.j0 kq l0 x24_2 = some r) ∧ Aside0 (kq ≤ k) ∧ Aside0 (Below w.heap.size w wc))
 case first =>
  have H := HC3.out
  clear HC3
  by_cases c5 : t608 = true
  ·subst c5
   rw [if_pos rfl] at H
   by_cases c6 : t607 = (l0.length : Int)
   ·rw [if_pos c6] at H
    have c6b0 := eT c6
    have c6b1 := nF c6
    clear c6
    (first | rw [c6b0] | (simp only [i64_w, i32_w]; rw [c6b0]) | skip)
    obtain ⟨t609, A7, H⟩ := bO H
    try dsimp only at H
    have H' := am H
    clear H
    go_wp2_with (go_at_call 26; (with_reducible refine (tree_Depth.calls _ _ _ _ _ _ ?side1 ?side2 A7.out).mono ?_); (case side1 => exact Kd.C_below HR0.out (kL HB)); (case side2 => exact HC0.out); rintro e w8 ⟨rfl, hb⟩; replace HB := am (below_step (kL HB) hb); (try clear hb))
    go_meet
    case rel => exact ⟨_, (decide (t609 > 40)), yS, H', ⟨yO⟩, ⟨(kL HB)⟩⟩
   ·rw [if_neg c6] at H
    have c6b0 := eF c6
    have c6b1 := nT c6
    (first | rw [c6b0] | (simp only [i64_w, i32_w]; rw [c6b0]) | skip)
    have H' := am H
    clear H
    go_wp2
    go_meet
    case rel => exact ⟨_, (true), yS, H', ⟨yO⟩, ⟨(kL HB)⟩⟩
  ·replace c5 := Bool.eq_false_iff.mpr c5
   subst c5
   rw [if_neg (show ¬ (false = true) by decide)] at H
   have H' := am H
   clear H
   go_wp2
   go_meet
   case rel => exact ⟨_, (true), yS, H', ⟨yO⟩, ⟨(kL HB)⟩⟩
 case rest =>
  clear HC3
  try clear c1
  try clear c2
  try clear p2
  try clear c5
  try clear c6
  try clear c6b0
  try clear c6b1
  obtain ⟨kq, x24_2, rfl, HA, HJ2, HB⟩ := hcut
  cases kq with
  | zero => exact absurd HA.out (by simp [tree_May.j0])
  | succ kj2 =>
   have H := HA.out
   clear HA
   simp only [tree_May.j0] at H
   by_cases c9 : x24_2 = true
   ·subst c9
    rw [if_pos rfl] at H
    obtain rfl := Option.some.inj H
    go_wp2
    go_ret
    exact ⟨yE, (kL HB)⟩
   ·replace c9 := Bool.eq_false_iff.mpr c9
    subst c9
    rw [if_neg (show ¬ (false = true) by decide)] at H
    have H' := am H
    clear H
    go_wp2
    go_loopg [27] kj2 (fun kq v27 w' => ∃ (x27_2 : Int), v27 = .int .i64 x27_2 ∧ Aside0 (tree_May.l0 kq l0 (l0.length : Int) x27_2 = some r) ∧ Aside0 (kq ≤ kj2) ∧ Aside0 (Below w.heap.size w w'))
    case atStart => exact ⟨(0), yS, H', ⟨Nat.le_refl _⟩, ⟨(kL HB)⟩⟩
    case round =>
     clear H'
     try clear c1
     try clear c2
     try clear p2
     try clear c5
     try clear c6
     try clear c6b0
     try clear c6b1
     try clear c9
     try clear p2
     obtain ⟨x27_2, rfl, HA, HK2, HB⟩ := hrel
     cases gk with
     | zero => exact absurd HA.out (by simp [tree_May.l0])
     | succ k2 =>
      have H := HA.out
      clear HA
      simp only [tree_May.l0] at H
      by_cases c10 : x27_2 < (l0.length : Int)
      ·rw [if_pos c10] at H
       have c10b0 : decide (x27_2 < (l0.length : Int)) = true := decide_eq_true c10
       clear c10
       by_cases c11 : 0 ≤ x27_2
       ·rw [if_pos c11] at H
        have c11b0 : decide (0 ≤ x27_2) = true := decide_eq_true c11
        clear c11
        by_cases c12 : x27_2 < (l0.length : Int)
        ·rw [if_pos c12] at H
         have c12b0 : decide (x27_2 < (l0.length : Int)) = true := decide_eq_true c12
         clear c12
         obtain ⟨t612, A13, H⟩ := bO H
         try dsimp only at H
         by_cases c14 : t612 = true
         ·subst c14
          rw [if_pos rfl] at H
          obtain ⟨t613, A15, H⟩ := bO H
          try dsimp only at H
          by_cases c16 : t613 = true
          ·subst c16
           rw [if_pos rfl] at H
           by_cases c17 : x27_2 > 0
           ·rw [if_pos c17] at H
            have c17b0 : decide (0 < x27_2) = true := decide_eq_true c17
            clear c17
            obtain rfl := Option.some.inj H
            have p610 : 0 ≤ (x27_2 : Int) := of_decide_eq_true yY
            have q610 : x27_2 < (l0.length : Int) := of_decide_eq_true yY
            obtain ⟨ad610, A610_4, c610_4, e610, hx610_0, hx610_1, hx610_2, hx610_3, hx610_4, hl610_4, hi610_4⟩ := at_T25 HR0.out x27_2 p610 q610
            cases e610
            replace hx610_0 := (HB.out.cell (World.block_lt_of_cell? w _ hx610_0)).trans hx610_0
            replace hx610_1 := (HB.out.cell (World.block_lt_of_cell? w _ hx610_1)).trans hx610_1
            replace hx610_2 := (HB.out.cell (World.block_lt_of_cell? w _ hx610_2)).trans hx610_2
            replace hx610_3 := (HB.out.cell (World.block_lt_of_cell? w _ hx610_3)).trans hx610_3
            replace hx610_4 := (HB.out.cell (World.block_lt_of_cell? w _ hx610_4)).trans hx610_4
            have HR610_4 := am hi610_4
            have HC610_4 := am hl610_4
            clear hi610_4 hl610_4
            replace p610 := eq_true p610
            replace q610 := eq_true q610
            go_wp2_with (first | ((with_reducible refine gD 6 rfl ?_); (try (refine gate_guard (by rfl) ?_; dsimp only)); refine bx 6 #[.int .i64 0, .string (⟨#[]⟩ : ByteArray), .string (⟨#[]⟩ : ByteArray), .string (⟨#[]⟩ : ByteArray), .slice none 0 0] 25 ?_; intro gb611 hg w18 hbox hb; have BK611 := am hbox; have GW611 := am (geL hg (kL HB)); replace HB := am (below_step (kL HB) hb); have GE611 := GW611; clear hb hbox hg; obtain ⟨hcz19_0, hcz19_1, hcz19_2, hcz19_3, hcz19_4, hfz19_0, hfz19_1, hfz19_2, hfz19_3, hfz19_4⟩ := bk5 BK611.out) | ((with_reducible refine gC 42 rfl ?_); refine gL (some 33) Try.func42 #[.agg #[.int .i64 ((rd_T25 l0 x27_2).f0), .string ((rd_T25 l0 x27_2).f1), .string ((rd_T25 l0 x27_2).f2), .string ((rd_T25 l0 x27_2).f3), .slice A610_4 ((rd_T25 l0 x27_2).f4).length c610_4]] ?_; (with_reducible refine (tree_may.calls _ _ _ _ _ _ _ _ _ _ ?side1 ?side2 A13.out).mono ?_); (case side1 => exact Kd.C_below HR610_4.out (kL HB)); (case side2 => exact HC610_4.out); rintro e w20 ⟨rfl, hb⟩; refine ⟨_, rfl, ?_⟩; replace BK611 := am (bB (g := gb611) (o := .cells #[.int .i64 ((rd_T25 l0 x27_2).f0), .string ((rd_T25 l0 x27_2).f1), .string ((rd_T25 l0 x27_2).f2), .string ((rd_T25 l0 x27_2).f3), .slice A610_4 ((rd_T25 l0 x27_2).f4).length c610_4] 25 (0, 0)) (kM BK611) hb); replace HB := am (below_step (kL HB) hb); (try clear hb); obtain ⟨hcz21_0, hcz21_1, hcz21_2, hcz21_3, hcz21_4, hfz21_0, hfz21_1, hfz21_2, hfz21_3, hfz21_4⟩ := bk5 BK611.out) | (go_at_call 43; (with_reducible refine (tree_head.calls _ _ _ _ _ _ _ _ _ ?side1 ?side2 A15.out).mono ?_); (case side1 => exact Kd.C_below HR610_4.out (kL HB)); (case side2 => exact HC610_4.out); rintro e w22 ⟨rfl, hb⟩; replace BK611 := am (bB (kB BK611) hb); replace HB := am (below_step (kL HB) hb); (try clear hb)))
            go_ret
            exact ⟨yE, (kL HB)⟩
           ·rw [if_neg c17] at H
            have c17b0 : decide (0 < x27_2) = false := decide_eq_false c17
            clear c17
            have H' := am H
            clear H
            have p610 : 0 ≤ (x27_2 : Int) := of_decide_eq_true yY
            have q610 : x27_2 < (l0.length : Int) := of_decide_eq_true yY
            obtain ⟨ad610, A610_4, c610_4, e610, hx610_0, hx610_1, hx610_2, hx610_3, hx610_4, hl610_4, hi610_4⟩ := at_T25 HR0.out x27_2 p610 q610
            cases e610
            replace hx610_0 := (HB.out.cell (World.block_lt_of_cell? w _ hx610_0)).trans hx610_0
            replace hx610_1 := (HB.out.cell (World.block_lt_of_cell? w _ hx610_1)).trans hx610_1
            replace hx610_2 := (HB.out.cell (World.block_lt_of_cell? w _ hx610_2)).trans hx610_2
            replace hx610_3 := (HB.out.cell (World.block_lt_of_cell? w _ hx610_3)).trans hx610_3
            replace hx610_4 := (HB.out.cell (World.block_lt_of_cell? w _ hx610_4)).trans hx610_4
            have HR610_4 := am hi610_4
            have HC610_4 := am hl610_4
            clear hi610_4 hl610_4
            replace p610 := eq_true p610
            replace q610 := eq_true q610
            go_wp2_with (first | ((with_reducible refine gD 6 rfl ?_); (try (refine gate_guard (by rfl) ?_; dsimp only)); refine bx 6 #[.int .i64 0, .string (⟨#[]⟩ : ByteArray), .string (⟨#[]⟩ : ByteArray), .string (⟨#[]⟩ : ByteArray), .slice none 0 0] 25 ?_; intro gb611 hg w23 hbox hb; have BK611 := am hbox; have GW611 := am (geL hg (kL HB)); replace HB := am (below_step (kL HB) hb); have GE611 := GW611; clear hb hbox hg; obtain ⟨hcz24_0, hcz24_1, hcz24_2, hcz24_3, hcz24_4, hfz24_0, hfz24_1, hfz24_2, hfz24_3, hfz24_4⟩ := bk5 BK611.out) | ((with_reducible refine gC 42 rfl ?_); refine gL (some 33) Try.func42 #[.agg #[.int .i64 ((rd_T25 l0 x27_2).f0), .string ((rd_T25 l0 x27_2).f1), .string ((rd_T25 l0 x27_2).f2), .string ((rd_T25 l0 x27_2).f3), .slice A610_4 ((rd_T25 l0 x27_2).f4).length c610_4]] ?_; (with_reducible refine (tree_may.calls _ _ _ _ _ _ _ _ _ _ ?side1 ?side2 A13.out).mono ?_); (case side1 => exact Kd.C_below HR610_4.out (kL HB)); (case side2 => exact HC610_4.out); rintro e w25 ⟨rfl, hb⟩; refine ⟨_, rfl, ?_⟩; replace BK611 := am (bB (g := gb611) (o := .cells #[.int .i64 ((rd_T25 l0 x27_2).f0), .string ((rd_T25 l0 x27_2).f1), .string ((rd_T25 l0 x27_2).f2), .string ((rd_T25 l0 x27_2).f3), .slice A610_4 ((rd_T25 l0 x27_2).f4).length c610_4] 25 (0, 0)) (kM BK611) hb); replace HB := am (below_step (kL HB) hb); (try clear hb); obtain ⟨hcz26_0, hcz26_1, hcz26_2, hcz26_3, hcz26_4, hfz26_0, hfz26_1, hfz26_2, hfz26_3, hfz26_4⟩ := bk5 BK611.out) | (go_at_call 43; (with_reducible refine (tree_head.calls _ _ _ _ _ _ _ _ _ ?side1 ?side2 A15.out).mono ?_); (case side1 => exact Kd.C_below HR610_4.out (kL HB)); (case side2 => exact HC610_4.out); rintro e w27 ⟨rfl, hb⟩; replace BK611 := am (bB (kB BK611) hb); replace HB := am (below_step (kL HB) hb); (try clear hb)))
            go_roundg k2
            case measure => have := HJ2.out; have := HK2.out; omega
            case rel => exact ⟨(wrap64 (x27_2 + 1)), yS, H', ⟨by have := HJ2.out; have := HK2.out; omega⟩, ⟨(kL HB)⟩⟩
          ·replace c16 := Bool.eq_false_iff.mpr c16
           subst c16
           rw [if_neg (show ¬ (false = true) by decide)] at H
           have H' := am H
           clear H
           have p610 : 0 ≤ (x27_2 : Int) := of_decide_eq_true yY
           have q610 : x27_2 < (l0.length : Int) := of_decide_eq_true yY
           obtain ⟨ad610, A610_4, c610_4, e610, hx610_0, hx610_1, hx610_2, hx610_3, hx610_4, hl610_4, hi610_4⟩ := at_T25 HR0.out x27_2 p610 q610
           cases e610
           replace hx610_0 := (HB.out.cell (World.block_lt_of_cell? w _ hx610_0)).trans hx610_0
           replace hx610_1 := (HB.out.cell (World.block_lt_of_cell? w _ hx610_1)).trans hx610_1
           replace hx610_2 := (HB.out.cell (World.block_lt_of_cell? w _ hx610_2)).trans hx610_2
           replace hx610_3 := (HB.out.cell (World.block_lt_of_cell? w _ hx610_3)).trans hx610_3
           replace hx610_4 := (HB.out.cell (World.block_lt_of_cell? w _ hx610_4)).trans hx610_4
           have HR610_4 := am hi610_4
           have HC610_4 := am hl610_4
           clear hi610_4 hl610_4
           replace p610 := eq_true p610
           replace q610 := eq_true q610
           go_wp2_with (first | ((with_reducible refine gD 6 rfl ?_); (try (refine gate_guard (by rfl) ?_; dsimp only)); refine bx 6 #[.int .i64 0, .string (⟨#[]⟩ : ByteArray), .string (⟨#[]⟩ : ByteArray), .string (⟨#[]⟩ : ByteArray), .slice none 0 0] 25 ?_; intro gb611 hg w28 hbox hb; have BK611 := am hbox; have GW611 := am (geL hg (kL HB)); replace HB := am (below_step (kL HB) hb); have GE611 := GW611; clear hb hbox hg; obtain ⟨hcz29_0, hcz29_1, hcz29_2, hcz29_3, hcz29_4, hfz29_0, hfz29_1, hfz29_2, hfz29_3, hfz29_4⟩ := bk5 BK611.out) | ((with_reducible refine gC 42 rfl ?_); refine gL (some 33) Try.func42 #[.agg #[.int .i64 ((rd_T25 l0 x27_2).f0), .string ((rd_T25 l0 x27_2).f1), .string ((rd_T25 l0 x27_2).f2), .string ((rd_T25 l0 x27_2).f3), .slice A610_4 ((rd_T25 l0 x27_2).f4).length c610_4]] ?_; (with_reducible refine (tree_may.calls _ _ _ _ _ _ _ _ _ _ ?side1 ?side2 A13.out).mono ?_); (case side1 => exact Kd.C_below HR610_4.out (kL HB)); (case side2 => exact HC610_4.out); rintro e w30 ⟨rfl, hb⟩; refine ⟨_, rfl, ?_⟩; replace BK611 := am (bB (g := gb611) (o := .cells #[.int .i64 ((rd_T25 l0 x27_2).f0), .string ((rd_T25 l0 x27_2).f1), .string ((rd_T25 l0 x27_2).f2), .string ((rd_T25 l0 x27_2).f3), .slice A610_4 ((rd_T25 l0 x27_2).f4).length c610_4] 25 (0, 0)) (kM BK611) hb); replace HB := am (below_step (kL HB) hb); (try clear hb); obtain ⟨hcz31_0, hcz31_1, hcz31_2, hcz31_3, hcz31_4, hfz31_0, hfz31_1, hfz31_2, hfz31_3, hfz31_4⟩ := bk5 BK611.out) | (go_at_call 43; (with_reducible refine (tree_head.calls _ _ _ _ _ _ _ _ _ ?side1 ?side2 A15.out).mono ?_); (case side1 => exact Kd.C_below HR610_4.out (kL HB)); (case side2 => exact HC610_4.out); rintro e w32 ⟨rfl, hb⟩; replace BK611 := am (bB (kB BK611) hb); replace HB := am (below_step (kL HB) hb); (try clear hb)))
           go_roundg k2
           case measure => have := HJ2.out; have := HK2.out; omega
           case rel => exact ⟨(wrap64 (x27_2 + 1)), yS, H', ⟨by have := HJ2.out; have := HK2.out; omega⟩, ⟨(kL HB)⟩⟩
         ·replace c14 := Bool.eq_false_iff.mpr c14
          subst c14
          rw [if_neg (show ¬ (false = true) by decide)] at H
          obtain rfl := Option.some.inj H
          have p610 : 0 ≤ (x27_2 : Int) := of_decide_eq_true yY
          have q610 : x27_2 < (l0.length : Int) := of_decide_eq_true yY
          obtain ⟨ad610, A610_4, c610_4, e610, hx610_0, hx610_1, hx610_2, hx610_3, hx610_4, hl610_4, hi610_4⟩ := at_T25 HR0.out x27_2 p610 q610
          cases e610
          replace hx610_0 := (HB.out.cell (World.block_lt_of_cell? w _ hx610_0)).trans hx610_0
          replace hx610_1 := (HB.out.cell (World.block_lt_of_cell? w _ hx610_1)).trans hx610_1
          replace hx610_2 := (HB.out.cell (World.block_lt_of_cell? w _ hx610_2)).trans hx610_2
          replace hx610_3 := (HB.out.cell (World.block_lt_of_cell? w _ hx610_3)).trans hx610_3
          replace hx610_4 := (HB.out.cell (World.block_lt_of_cell? w _ hx610_4)).trans hx610_4
          have HR610_4 := am hi610_4
          have HC610_4 := am hl610_4
          clear hi610_4 hl610_4
          replace p610 := eq_true p610
          replace q610 := eq_true q610
          go_wp2_with (first | ((with_reducible refine gD 6 rfl ?_); (try (refine gate_guard (by rfl) ?_; dsimp only)); refine bx 6 #[.int .i64 0, .string (⟨#[]⟩ : ByteArray), .string (⟨#[]⟩ : ByteArray), .string (⟨#[]⟩ : ByteArray), .slice none 0 0] 25 ?_; intro gb611 hg w33 hbox hb; have BK611 := am hbox; have GW611 := am (geL hg (kL HB)); replace HB := am (below_step (kL HB) hb); have GE611 := GW611; clear hb hbox hg; obtain ⟨hcz34_0, hcz34_1, hcz34_2, hcz34_3, hcz34_4, hfz34_0, hfz34_1, hfz34_2, hfz34_3, hfz34_4⟩ := bk5 BK611.out) | ((with_reducible refine gC 42 rfl ?_); refine gL (some 33) Try.func42 #[.agg #[.int .i64 ((rd_T25 l0 x27_2).f0), .string ((rd_T25 l0 x27_2).f1), .string ((rd_T25 l0 x27_2).f2), .string ((rd_T25 l0 x27_2).f3), .slice A610_4 ((rd_T25 l0 x27_2).f4).length c610_4]] ?_; (with_reducible refine (tree_may.calls _ _ _ _ _ _ _ _ _ _ ?side1 ?side2 A13.out).mono ?_); (case side1 => exact Kd.C_below HR610_4.out (kL HB)); (case side2 => exact HC610_4.out); rintro e w35 ⟨rfl, hb⟩; refine ⟨_, rfl, ?_⟩; replace BK611 := am (bB (g := gb611) (o := .cells #[.int .i64 ((rd_T25 l0 x27_2).f0), .string ((rd_T25 l0 x27_2).f1), .string ((rd_T25 l0 x27_2).f2), .string ((rd_T25 l0 x27_2).f3), .slice A610_4 ((rd_T25 l0 x27_2).f4).length c610_4] 25 (0, 0)) (kM BK611) hb); replace HB := am (below_step (kL HB) hb); (try clear hb)))
          go_ret
          exact ⟨yE, (kL HB)⟩
        ·rw [if_neg c12] at H
         exact absurd H (by simp)
       ·rw [if_neg c11] at H
        exact absurd H (by simp)
      ·rw [if_neg c10] at H
       have c10b0 : decide (x27_2 < (l0.length : Int)) = false := decide_eq_false c10
       clear c10
       obtain rfl := Option.some.inj H
       go_wp2
       go_ret
       exact ⟨yE, (kL HB)⟩
end Go.Proofs.Ytdelccahgchadaa.P
end
section
namespace Go.Proofs.Ytdelccahgchadaa
open Go.RowKit Go.Lib Go.Proofs.Ytdelccahgchadaa.P Go.Proofs.YtdelccahgchadaaW.PrintWords Go.Proofs.YtdelccahgchadaaW.PrintMore
set_option linter.unusedVariables false
def isB (s : ByteArray) (kind : Int) : Bool :=
 if s.size ≤ 256 then (match lexL (L s) with | .inr [t] => t.text == L s && decide ((t.kind : Int) = kind) | _ => false) else false
theorem is_eq (s : ByteArray) (kind : Int) (k : Nat) (hk : 258 < k) : tree_is.f k s kind = some (isB s kind) := by
 unfold tree_is.f isB
 by_cases hs : s.size ≤ 256
 ·rw [if_pos hs, lex_eq s hs k hk]
  cases lexL (L s) with
  | inl e => simp [outL]
  | inr ts =>
   cases ts with
   | nil => simp [outL]
   | cons t ts =>
    cases ts with
    | nil =>
     simp only [outL, Option.bind_some, List.map_cons, List.map_nil, List.length_singleton]
     rw [if_pos trivial, if_pos (by decide), if_pos (by decide)]
     have q1 : (rd_T71 [encT t] 0).f1.toList = t.text := by
      have : (rd_T71 [encT t] 0).f1 = mkB t.text := rfl
      rw [this, toList_L]
     have q2 : (rd_T71 [encT t] 0).f0 = (t.kind : Int) := rfl
     rw [q1, q2, toList_L]
     by_cases h : t.text = L s
     ·rw [if_pos h, h]; simp
      rfl
     ·rw [if_neg h]
      have : (t.text == L s) = false := by simpa using h
      rw [this]; rfl
    | cons u ts =>
     simp only [outL, Option.bind_some, List.map_cons, List.length_cons]
     rw [if_pos trivial, if_neg (by omega)]
 ·rw [if_neg hs, lex_big s (by omega)]
  simp
def verbB (s : ByteArray) : Bool := s.toList == ([123] : List UInt8) || isB s 4 || isB s 3
theorem verb_eq (s : ByteArray) (k : Nat) (hk : 258 < k) : tree_verb.f k s = some (verbB s) := by
 unfold tree_verb.f verbB
 by_cases h : s.toList = ([123] : List UInt8)
 ·rw [if_pos h, h]; rfl
 ·rw [if_neg h, is_eq s 4 k hk, is_eq s 3 k hk]
  have : (s.toList == ([123] : List UInt8)) = false := by simpa using h
  rw [this]
  cases isB s 4 <;> simp
def advB (s of : ByteArray) : Bool := s.toList == ([] : List UInt8) || (match L s with | [c] => (L of).contains c | _ => false)
theorem adv_eq (s of : ByteArray) : tree_adv.f s of = some (advB s of) := by
 unfold tree_adv.f advB
 by_cases h : s.toList = ([] : List UInt8)
 ·rw [if_pos h, h]; rfl
 ·rw [if_neg h]
  have h2 : (s.toList == ([] : List UInt8)) = false := by simpa using h
  rw [h2, Bool.false_or]
  have hz : s.size = (L s).length := L_size s
  unfold strings_Contains.f
  by_cases h1 : (s.size : Int) = 1
  ·rw [if_pos h1]
   obtain ⟨c, hc⟩ : ∃ c, L s = [c] := by
    cases hl : L s with
    | nil => rw [hl, List.length_nil] at hz; omega
    | cons c l =>
     cases l with
     | nil => exact ⟨c, rfl⟩
     | cons d l => rw [hl, List.length_cons, List.length_cons] at hz; omega
   have hc2 : s.data.toList = [c] := hc
   rw [hc2, hc]
   simp
  ·rw [if_neg h1]
   cases hl : L s with
   | nil => rfl
   | cons c l =>
    cases l with
    | nil => rw [hl, List.length_singleton] at hz; omega
    | cons d l => rfl
end Go.Proofs.Ytdelccahgchadaa
end
section
namespace Go.Proofs.Ytdelccahgchadaa
open Go.RowKit Go.Lib Go.Proofs.Ytdelccahgchadaa.P Go.Proofs.YtdelccahgchadaaW.PrintWords Go.Proofs.YtdelccahgchadaaW.PrintMore
set_option linter.unusedVariables false
theorem rdS_get (l : List ByteArray) (i : Nat) (h : i < l.length) : rdOf ByteArray.empty l (i : Int) = l[i] := by
 unfold rdOf
 rw [Int.toNat_natCast, List.getD_eq_getElem?_getD, List.getElem?_eq_getElem h]
 rfl
theorem IndexNum (l : List ByteArray) (hl : l.length ≤ 1000000) : ∀ (m i k : Nat), l.length - i < m → m ≤ k → i ≤ l.length → ∃ r, slices_IndexFunc_string_string.l0 k l (l.length : Int) (i : Int) = some r ∧ decide (r ≥ 0) = (l.drop i).any fun s => !mayB (L s) := by
 intro m
 induction m with
 | zero => intro i k h; omega
 | succ m ih =>
  intro i k h hk hi
  obtain ⟨k, rfl⟩ : ∃ j, k = j + 1 := ⟨k - 1, by omega⟩
  simp only [slices_IndexFunc_string_string.l0]
  by_cases hlt : (i : Int) < (l.length : Int)
  ·have hil : i < l.length := by omega
   rw [if_pos hlt, if_pos (by omega), if_pos hlt, rdS_get l i hil, List.drop_eq_getElem_cons hil, List.any_cons]
   unfold tree_may_1.f
   rw [May_eq]
   simp only [Option.bind_some]
   cases hm : mayB (L l[i]) with
   | false => exact ⟨(i : Int), by simp, by simp⟩
   | true =>
    obtain ⟨r, h1, h2⟩ := ih (i + 1) k (by omega) (by omega) (by omega)
    refine ⟨r, ?_, by rw [h2]; simp⟩
    have hw : wrap64 ((i : Int) + 1) = ((i + 1 : Nat) : Int) := by rw [wrap_id (by omega) (by omega)]; omega
    rw [hw, h1]; rfl
  ·rw [if_neg hlt, List.drop_eq_nil_of_le (by omega)]
   exact ⟨-1, rfl, rfl⟩
theorem ContainsNum (l : List ByteArray) (hl : l.length ≤ 1000000) (k : Nat) (hk : l.length + 1 ≤ k) : slices_ContainsFunc_string_string.f k l = some (l.any fun s => !mayB (L s)) := by
 unfold slices_ContainsFunc_string_string.f slices_IndexFunc_string_string.f
 obtain ⟨r, h1, h2⟩ := IndexNum l hl (l.length + 1) 0 k (by omega) hk (by omega)
 have e0 : (0 : Int) = ((0 : Nat) : Int) := rfl
 rw [e0, h1]
 rw [List.drop_zero] at h2
 simp only [Option.bind_some]
 rw [← h2]
 rfl
def noB (s : ByteArray) : Bool := s.toList == ([] : List UInt8)
def mayN (x : Nd) : Bool :=
 if x.f0 = 1 then noB x.f1 && noB x.f2 && noB x.f3 && !(x.f4.length == 0) && decide (x.f4.length ≤ 100) && !(x.f4.any fun s => !mayB (L s))
 else if x.f0 = 2 ∨ x.f0 = 5 ∨ x.f0 = 6 then noB x.f1 && noB x.f2 && x.f4.length == 0 && isB x.f3 2
 else if x.f0 = 7 then noB x.f1 && noB x.f2 && x.f4.length == 0 && isB x.f3 3
 else if x.f0 = 8 then noB x.f1 && noB x.f2 && x.f4.length == 0 && noB x.f3
 else if x.f0 = 3 then x.f4.length == 0 && noB x.f3 && verbB x.f1 && advB x.f2 ⟨#[39, 47, 92, 96]⟩
 else if x.f0 = 4 then x.f4.length == 0 && noB x.f3 && verbB x.f1 && advB x.f2 ⟨#[39, 46]⟩
 else false
theorem if_andT (a x : Bool) : (if a = true then some x else some false) = some (a && x) := by cases a <;> rfl
theorem noB_if (s : ByteArray) (x : Bool) : (if s.toList = ([] : List UInt8) then some x else some false) = some (noB s && x) := by
 unfold noB
 by_cases h : s.toList = ([] : List UInt8)
 ·rw [if_pos h, h]; rfl
 ·rw [if_neg h]
  have : (s.toList == ([] : List UInt8)) = false := by simpa using h
  rw [this]; rfl
theorem may_eq (x : Nd) (k : Nat) (hk : 400 < k) : tree_may.f k x.f0 x.f1 x.f2 x.f3 x.f4 = some (mayN x) := by
 obtain ⟨k, rfl⟩ : ∃ j, k = j + 2 := ⟨k - 2, by omega⟩
 obtain ⟨k0, v, a, n, l⟩ := x
 simp only []
 have key : ∀ pl : Bool, pl = (noB v && noB a) → tree_may.j0 (k + 2) ((l.length : Int) == 0) pl k0 v a n l = some (mayN ⟨k0, v, a, n, l⟩) := by
  intro pl hpl
  have hbare : ((l.length : Int) == 0) = (l.length == 0) := by
   rw [Bool.eq_iff_iff]; simp
  rw [hbare]
  simp only [tree_may.j0, tree_may.j1, is_eq _ _ k (by omega), verb_eq _ k (by omega), adv_eq, Option.bind_some, if_andT, noB_if, mayN, ← hpl]
  have hcn : (if (l.length : Int) ≤ 100 then (slices_ContainsFunc_string_string.f (k + 1) l).bind fun t => some (!t) else some false) = some (decide (l.length ≤ 100) && !(l.any fun s => !mayB (L s))) := by
   by_cases h : l.length ≤ 100
   ·rw [if_pos (by omega), ContainsNum l (by omega) (k + 1) (by omega), decide_eq_true h]
    rfl
   ·rw [if_neg (by omega), decide_eq_false h]
    rfl
  rw [hcn]
  by_cases h1 : k0 = 1
  ·subst h1
   cases pl <;> cases (l.length == 0) <;> by_cases hn : n.toList = [] <;> simp [noB, hn]
  rw [if_neg h1, if_neg h1]
  by_cases h2 : k0 = 2
  ·subst h2; simp [Bool.and_assoc]
  by_cases h5 : k0 = 5
  ·subst h5; simp [Bool.and_assoc]
  by_cases h6 : k0 = 6
  ·subst h6; simp [Bool.and_assoc]
  have h256 : ¬ (k0 = 2 ∨ k0 = 5 ∨ k0 = 6) := by omega
  have hb6 : ¬ (k0 == 6) = true := by simpa using h6
  rw [if_neg h2, if_neg h5, if_neg hb6, if_neg h256]
  by_cases h7 : k0 = 7
  ·subst h7; simp [Bool.and_assoc]
  rw [if_neg h7, if_neg h7]
  by_cases h8 : k0 = 8
  ·subst h8; simp [Bool.and_assoc, noB]
  rw [if_neg h8, if_neg h8]
  by_cases h3 : k0 = 3
  ·subst h3; simp [Bool.and_assoc]
  rw [if_neg h3, if_neg h3]
  by_cases h4 : k0 = 4
  ·subst h4; simp [Bool.and_assoc]
  rw [if_neg h4, if_neg h4]
 unfold tree_may.f
 by_cases hv : v.toList = ([] : List UInt8)
 ·rw [if_pos hv]
  exact key _ (by unfold noB; rw [hv]; rfl)
 ·rw [if_neg hv]
  exact key _ (by
   unfold noB
   have : (v.toList == ([] : List UInt8)) = false := by simpa using hv
   rw [this]; rfl)
end Go.Proofs.Ytdelccahgchadaa
end
section
namespace Go.Proofs.Ytdelccahgchadaa
open Go.RowKit Go.Lib Go.Proofs.Ytdelccahgchadaa.P Go.Proofs.YtdelccahgchadaaW.PrintWords Go.Proofs.YtdelccahgchadaaW.PrintMore
set_option linter.unusedVariables false
def headB (x : Nd) : Bool := decide (x.f0 = 5 ∨ x.f0 = 6 ∨ x.f0 = 7)
theorem head_eq (a : Int) (b c d : ByteArray) (l : List ByteArray) : tree_head.f a b c d l = some (decide (a = 5 ∨ a = 6 ∨ a = 7)) := by
 unfold tree_head.f
 by_cases h5 : a = 5
 ·subst h5; simp
 by_cases h6 : a = 6
 ·subst h6; simp
 by_cases h7 : a = 7
 ·subst h7; simp
 simp [h5, h6, h7]
def allN : Nat → List Nd → Bool
 | _, [] => true
 | i, x :: l => mayN x && !(headB x && decide (0 < i)) && allN (i + 1) l
theorem May_l0 (l0 : List Nd) (hl : l0.length ≤ 1000000) : ∀ (l : List Nd) (i k : Nat), l0.drop i = l → i ≤ l0.length → l.length + 410 ≤ k → tree_May.l0 k l0 (l0.length : Int) (i : Int) = some (allN i l) := by
 intro l
 induction l with
 | nil =>
  intro i k hd hi hk
  obtain ⟨k, rfl⟩ : ∃ j, k = j + 1 := ⟨k - 1, by rw [List.length_nil] at hk; omega⟩
  have : l0.length ≤ i := by
   have := congrArg List.length hd
   rw [List.length_drop, List.length_nil] at this
   omega
  simp only [tree_May.l0]
  rw [if_neg (by omega)]
  rfl
 | cons x l ih =>
  intro i k hd hi hk
  rw [List.length_cons] at hk
  obtain ⟨k, rfl⟩ : ∃ j, k = j + 1 := ⟨k - 1, by omega⟩
  obtain ⟨hr, hlt, hd2⟩ := rd_drop l0 i x l hd
  have hi2 := ih (i + 1) k hd2 (by omega) (by omega)
  simp only [tree_May.l0]
  rw [if_pos (by omega), if_pos (by omega), if_pos (by omega), hr, may_eq x k (by omega), head_eq]
  have w1 : wrap64 ((i : Int) + 1) = ((i + 1 : Nat) : Int) := by rw [wrap_id (by omega) (by omega)]; omega
  rw [w1, hi2]
  clear w1
  simp only [Option.bind_some, allN, headB]
  cases mayN x with
  | false => rfl
  | true =>
   cases decide (x.f0 = 5 ∨ x.f0 = 6 ∨ x.f0 = 7) with
   | false => simp
   | true =>
    by_cases h0 : 0 < i
    ·rw [if_pos rfl, if_pos rfl, if_pos (by omega), decide_eq_true h0]; rfl
    ·rw [if_pos rfl, if_pos rfl, if_neg (by omega), decide_eq_false h0]; simp
def mayL (l : List Nd) : Bool := decide (endW kdT l 1 = some l.length) && decide (depL kdT l ≤ 40) && allN 0 l
theorem May_eqL (l : List Nd) (hl : l.length ≤ 1000000) (k : Nat) (hk : 5 * l.length + 420 ≤ k) : tree_May.f k l = some (mayL l) := by
 unfold tree_May.f mayL
 have e0 : (0 : Int) = ((0 : Nat) : Int) := rfl
 have hE := End_eq l hl 0 (by omega) k (by omega)
 rw [List.drop_zero, ← e0] at hE
 have hD := Depth_eq l hl k (by omega)
 obtain ⟨j, rfl⟩ : ∃ j, k = j + 1 := ⟨k - 1, by omega⟩
 have hM := May_l0 l hl l 0 j rfl (by omega) (by omega)
 rw [← e0] at hM
 rw [hE, hD]
 simp only [Option.bind_some, tree_May.j0, hM]
 cases h : endW kdT l 1 with
 | none => simp [outE]
 | some m =>
  simp only [outE, Nat.zero_add]
  rw [if_pos trivial]
  by_cases hm : m = l.length
  ·subst hm
   rw [if_pos rfl]
   by_cases hd : depL kdT l ≤ 40
   ·have : decide ((depL kdT l : Int) > 40) = false := decide_eq_false (by omega)
    rw [this, decide_eq_true hd]; simp
   ·have : decide ((depL kdT l : Int) > 40) = true := decide_eq_true (by omega)
    rw [this, decide_eq_false hd]; simp
  ·rw [if_neg (by omega), if_pos trivial]
   have : decide (some m = some l.length) = false := decide_eq_false (fun h => hm (Option.some.inj h))
   rw [this]; rfl
theorem mayL_parts {l : List Nd} (h : mayL l = true) : endW kdT l 1 = some l.length ∧ depL kdT l ≤ 40 ∧ allN 0 l = true := by
 unfold mayL at h
 simp only [Bool.and_eq_true, decide_eq_true_eq] at h
 exact ⟨h.1.1, h.1.2, h.2⟩
end Go.Proofs.Ytdelccahgchadaa
end
section
namespace Go.Proofs.Ytdelccahgchadaa.P
open Go.RowKit Go.Proofs.YtdelccahgchadaaW.PrintWords Go.Proofs.YtdelccahgchadaaW.PrintLast Go.Proofs.YtdelccahgchadaaW.PrintMore
attribute [local go_sem] max2_int min2_int max_two min_two max_three min_three max_four min_four   
set_option linter.unusedVariables false
set_option linter.unusedSimpArgs false
end Go.Proofs.Ytdelccahgchadaa.P
end
section
namespace Go.Proofs.Ytdelccahgchadaa.P
open Go.RowKit Go.Proofs.YtdelccahgchadaaW.PrintWords Go.Proofs.YtdelccahgchadaaW.PrintLast Go.Proofs.YtdelccahgchadaaW.PrintMore
attribute [local go_sem] max2_int min2_int max_two min_two max_three min_three max_four min_four   
set_option linter.unusedVariables false
set_option linter.unusedSimpArgs false
end Go.Proofs.Ytdelccahgchadaa.P
end
section
namespace Go.Proofs.Ytdelccahgchadaa
open Go.RowKit Go.Lib Go.Proofs.Ytdelccahgchadaa.P Go.Proofs.YtdelccahgchadaaW.PrintWords Go.Proofs.YtdelccahgchadaaW.PrintMore
set_option linter.unusedVariables false
theorem Grow_eq (n : Nat) (h : n ≤ 1000000) : api_Node_64.f (n : Int) = some [] := by
 unfold api_Node_64.f
 have hw : wrap64 (n : Int) = (n : Int) := wrap_id (by omega) (by omega)
 rw [hw]
 clear hw
 rw [if_neg (by omega)]
 by_cases h0 : (n : Int) > 0
 ·have hb : ([] : List Nd).length + ((n : Int)).toNat < 1759218604441 := Nat.lt_of_le_of_lt (by rw [List.length_nil, Int.toNat_natCast]; omega : ([] : List Nd).length + ((n : Int)).toNat ≤ 1000000) (by decide)
  rw [if_pos h0, if_pos (by omega), if_pos hb]
  simp only [Option.bind_some]
  rw [if_pos (by omega)]
  rfl
 ·rw [if_neg h0]
def lens (l : List (List Nd)) : Nat := (l.map List.length).sum
theorem rdL_at (l : List (List Nd)) (i : Nat) (h : i < l.length) : rd_L4 l (i : Int) = l[i] := by
 unfold rd_L4
 rw [Int.toNat_natCast, List.getD_eq_getElem?_getD, List.getElem?_eq_getElem h]
 rfl
theorem Concat_l1 (l : List (List Nd)) (hl : l.length ≤ 1000) : ∀ (m i k : Nat) (acc : List Nd), l.length - i < m → m ≤ k → i ≤ l.length → acc.length + lens (l.drop i) ≤ 1000000 → api_Node_48.l1 k acc l (l.length : Int) (i : Int) = some (acc ++ (l.drop i).flatten) := by
 intro m
 induction m with
 | zero => intro i k acc h; omega
 | succ m ih =>
  intro i k acc h hk hi hs
  obtain ⟨k, rfl⟩ : ∃ j, k = j + 1 := ⟨k - 1, by omega⟩
  simp only [api_Node_48.l1]
  by_cases hlt : (i : Int) < (l.length : Int)
  ·have hil : i < l.length := by omega
   rw [List.drop_eq_getElem_cons hil] at hs ⊢
   simp only [lens, List.map_cons, List.sum_cons] at hs
   have hb : acc.length + l[i].length < 1759218604441 := Nat.lt_of_le_of_lt (by omega : acc.length + l[i].length ≤ 1000000) (by decide)
   rw [if_pos hlt, if_pos (by omega), if_pos hlt, rdL_at l i hil, if_pos hb]
   have hi2 := ih (i + 1) k (acc ++ l[i]) (by omega) (by omega) (by omega) (by rw [List.length_append]; unfold lens; omega)
   have hw : wrap64 ((i : Int) + 1) = ((i + 1 : Nat) : Int) := by rw [wrap_id (by omega) (by omega)]; omega
   rw [hw, hi2, List.flatten_cons, List.append_assoc]
  ·rw [if_neg hlt, List.drop_eq_nil_of_le (by omega)]
   simp
theorem Concat_l0 (l : List (List Nd)) (hl : l.length ≤ 1000) (hs : lens l ≤ 1000000) : ∀ (m i k n : Nat), l.length - i < m → m + 1100 ≤ k → i ≤ l.length → n + lens (l.drop i) ≤ 1000000 → api_Node_48.l0 k l (n : Int) l (l.length : Int) (i : Int) = some l.flatten := by
 intro m
 induction m with
 | zero => intro i k n h; omega
 | succ m ih =>
  intro i k n h hk hi hn
  obtain ⟨k, rfl⟩ : ∃ j, k = j + 1 := ⟨k - 1, by omega⟩
  simp only [api_Node_48.l0]
  by_cases hlt : (i : Int) < (l.length : Int)
  ·have hil : i < l.length := by omega
   rw [List.drop_eq_getElem_cons hil] at hn
   simp only [lens, List.map_cons, List.sum_cons] at hn
   have hi2 := ih (i + 1) k (n + l[i].length) (by omega) (by omega) (by omega) (by unfold lens; omega)
   rw [if_pos hlt, if_pos (by omega), if_pos hlt, rdL_at l i hil]
   have hw0 : wrap64 ((n : Int) + (l[i].length : Int)) = ((n + l[i].length : Nat) : Int) := by rw [wrap_id (by omega) (by omega)]; omega
   have hw : wrap64 ((i : Int) + 1) = ((i + 1 : Nat) : Int) := by rw [wrap_id (by omega) (by omega)]; omega
   rw [hw0, hw]
   clear hw hw0
   rw [if_neg (by omega), hi2]
  ·have hg := Grow_eq n (by omega)
   rw [if_neg hlt, hg]
   simp only [Option.bind_some]
   have e0 : (0 : Int) = ((0 : Nat) : Int) := rfl
   rw [e0, Concat_l1 l hl (l.length + 1) 0 k [] (by omega) (by omega) (by omega) (by rw [List.drop_zero, List.length_nil]; omega), List.drop_zero, List.nil_append]
theorem Concat_eq (l : List (List Nd)) (hl : l.length ≤ 1000) (hs : lens l ≤ 1000000) (k : Nat) (hk : 2200 ≤ k) : api_Node_48.f k l = some l.flatten := by
 unfold api_Node_48.f
 have e0 : (0 : Int) = ((0 : Nat) : Int) := rfl
 rw [e0]
 exact Concat_l0 l hl hs (l.length + 1) 0 k 0 (by omega) (by omega) (by omega) (by rw [List.drop_zero]; omega)
theorem Node_eq (a : Int) (b c d : ByteArray) (e : List ByteArray) (l : List (List Nd)) (hl : l.length ≤ 1000) (hs : lens l ≤ 1000000) (k : Nat) (hk : 2200 ≤ k) : tree_Node.f k a b c d e l = some (⟨a, b, c, d, e⟩ :: l.flatten) := by
 unfold tree_Node.f
 rw [Concat_eq l hl hs k hk]
 simp only [Option.bind_some]
 have hf : l.flatten.length = lens l := by simp [lens, List.length_flatten]
 have hb : [(⟨a, b, c, d, e⟩ : Nd)].length + l.flatten.length < 1759218604441 := Nat.lt_of_le_of_lt (by rw [hf, List.length_singleton]; omega : [(⟨a, b, c, d, e⟩ : Nd)].length + l.flatten.length ≤ 1000001) (by decide)
 rw [if_pos hb]
 rfl
end Go.Proofs.Ytdelccahgchadaa
end
section
namespace Go.Proofs.Ytdelccahgchadaa.P
open Go.RowKit Go.Proofs.YtdelccahgchadaaW.PrintWords Go.Proofs.YtdelccahgchadaaW.PrintLast Go.Proofs.YtdelccahgchadaaW.PrintMore
attribute [local go_sem] max2_int min2_int max_two min_two max_three min_three max_four min_four   
set_option linter.unusedVariables false
set_option linter.unusedSimpArgs false
def parse_parser_literal.l0 : Nat → List (S71) → Int → Int → Bool → Int → ByteArray → ByteArray → ByteArray → List ByteArray → Option ((List (S25)) × Int × Int × Bool)
 | 0, _, _, _, _, _, _, _, _, _ => none
 | k + 1, x1000, x1001, x1002, x1003, x179000, x179001, x179002, x179003, x179004 => (parse_parser_look.f x1000 x1001 x1002 x1003 0).bind fun bt179 => (if bt179.1 = 1 then (if (x179004.length : Int) = 100 then ((tree_Node.f k x179000 x179001 x179002 x179003 x179004 ([] : List (List (S25)))).bind fun t188 => (some (t188, bt179.2.2.2.1, bt179.2.2.2.2.1, true))) else ((parse_parser_look.f x1000 bt179.2.2.2.1 bt179.2.2.2.2.1 bt179.2.2.2.2.2 0).bind fun bt191 => ((lex_Number.f k bt191.2.1).bind fun bt197 => (if x179004.length < 8796093022208 then (parse_parser_literal.l0 k x1000 (wrap64 (bt191.2.2.2.1 + 1)) bt191.2.2.2.2.1 bt191.2.2.2.2.2 x179000 x179001 x179002 x179003 (x179004 ++ [bt197.1])) else (none))))) else ((tree_Node.f k x179000 x179001 x179002 x179003 x179004 ([] : List (List (S25)))).bind fun t185 => (some (t185, bt179.2.2.2.1, bt179.2.2.2.2.1, bt179.2.2.2.2.2))))
def parse_parser_literal.f (k : Nat) (s0_0 : List (S71)) (s0_1 : Int) (s0_2 : Int) (s0_3 : Bool) : Option ((List (S25)) × Int × Int × Bool) := parse_parser_literal.l0 k s0_0 s0_1 s0_2 s0_3 1 (⟨#[]⟩ : ByteArray) (⟨#[]⟩ : ByteArray) (⟨#[]⟩ : ByteArray) ([] : List ByteArray)
theorem parse_parser_literal.mono_l : ∀ k, (∀ y0 y1 y2 y3 y4 y5 y6 y7 y8, LeO (parse_parser_literal.l0 k y0 y1 y2 y3 y4 y5 y6 y7 y8) (parse_parser_literal.l0 (k + 1) y0 y1 y2 y3 y4 y5 y6 y7 y8))
 | 0 => fun _ _ _ _ _ _ _ _ _ r h => by simp [parse_parser_literal.l0] at h
 | k + 1 => by
  have ih0 := parse_parser_literal.mono_l k
  ·intro y0 y1 y2 y3 y4 y5 y6 y7 y8
   unfold parse_parser_literal.l0
   with_reducible repeat' first
   | exact ih0 _ _ _ _ _ _ _ _ _
   | exact lex_Number.mono _ _
   | exact tree_Node.mono _ _ _ _ _ _ _
   | exact LeO.refl _
   | exact LeO.none _
   | refine LeO.ite ?_ ?_
   | refine LeO.bind ?_ (fun _ => ?_)
theorem parse_parser_literal.mono : ∀ a0 a1 a2 a3 k, LeO (parse_parser_literal.f k a0 a1 a2 a3) (parse_parser_literal.f (k + 1) a0 a1 a2 a3) := by
 intro a0 a1 a2 a3 k
 have ih0 := parse_parser_literal.mono_l k
 unfold parse_parser_literal.f
 with_reducible repeat' first
   | exact ih0 _ _ _ _ _ _ _ _ _
   | exact lex_Number.mono _ _
   | exact tree_Node.mono _ _ _ _ _ _ _
   | exact LeO.refl _
   | exact LeO.none _
   | refine LeO.ite ?_ ?_
   | refine LeO.bind ?_ (fun _ => ?_)
set_option maxHeartbeats 8000000 in
set_option maxRecDepth 100000 in
theorem parse_parser_literal.calls (k : Nat) (g : Nat) (s0_0 : List (S71)) (s0_1 : Int) (s0_2 : Int) (s0_3 : Bool) (r1 : List (S25)) (r2 : Int) (r3 : Int) (r4 : Bool) (w0 w : World) (hI : IsS83 w0 w g s0_0 s0_1 s0_2 s0_3) (hB : Below w0.heap.size w0 w) (h : parse_parser_literal.f k s0_0 s0_1 s0_2 s0_3 = some (r1, r2, r3, r4)) :
  Calls Try.prog 130 #[.pointer (some ⟨g, 0, none⟩)] w fun e w' => ∃ v0_ : Value, e = .returned (v0_) ∧ Kd.N k25 25 w' w.heap.size (fun k_ => (w.heap.size ≤ k_)) v0_ r1 ∧ IsS83 w0 w' g s0_0 r2 r3 r4 ∧ Below w0.heap.size w0 w' ∧ KeepBut w w' g none := by
 have hu25 := Try.underlying25
 have HI0 := am hI
 have HK := am (KeepBut.refl w g none)
 have HL := am hB.size
 clear hI
 have HW0 := am hB.size
 have HB := am hB
 clear hB
 unfold parse_parser_literal.f at h
 have H := h
 clear h
 have H' := am H
 clear H
 go_enter Try.func130, Try.ntmps130
 go_wp2_with ((with_reducible refine gD 3 rfl ?_); refine bx 3 #[.int .i64 0, .string (⟨#[]⟩ : ByteArray), .string (⟨#[]⟩ : ByteArray), .string (⟨#[]⟩ : ByteArray), .slice none 0 0] 25 ?_; intro gb178 hg w2 hbox hb; replace HB := am (below_step (kLI HB) hb); have BK178 := am hbox; have GW178 := am ((by rw [hg]; exact (keep_size (w := w) (g := g) (row := none) (kK HK)) : w.heap.size ≤ gb178)); have GE178 := am ((Nat.le_trans HW0.out (by rw [hg]; exact (keep_size (w := w) (g := g) (row := none) (kK HK)) : w.heap.size ≤ gb178) : w0.heap.size ≤ gb178)); replace HK := am (KeepBut.trans (kK HK) (KeepBut.of_below hb g none) (.inl rfl)); have NB0_178 := am ((by rw [hg]; exact Nat.ne_of_lt (IsS83.lt (show IsS83 w0 _ g s0_0 s0_1 s0_2 s0_3 from yI)) : g ≠ gb178)); have NB178_0 := am ((by rw [hg]; exact Nat.ne_of_gt (IsS83.lt (show IsS83 w0 _ g s0_0 s0_1 s0_2 s0_3 from yI)) : gb178 ≠ g)); replace HI0 := am (IsS83.below yI hb); clear hb hbox hg; have hnb3 := NB178_0.out; have hnc3 := NB0_178.out; obtain ⟨hcz4_0, hcz4_1, hcz4_2, hcz4_3, hcz4_4, hfz4_0, hfz4_1, hfz4_2, hfz4_3, hfz4_4⟩ := bk5 BK178.out)
 go_loopg [] k (fun kq w' => ∃ (x1001_1 : Int) (x1002_1 : Int) (x1003_1 : Bool) (x179004_1 : List ByteArray) (u179004 : Value), Aside0 (parse_parser_literal.l0 kq s0_0 x1001_1 x1002_1 x1003_1 1 (⟨#[]⟩ : ByteArray) (⟨#[]⟩ : ByteArray) (⟨#[]⟩ : ByteArray) x179004_1 = some (r1, r2, r3, r4)) ∧ Aside0 (kq ≤ k) ∧ Aside0 (Kd.R Kd.string 9 w' w.heap.size (fun k_ => (w.heap.size ≤ k_)) u179004 x179004_1) ∧ Aside0 (w'.heap[gb178]? = some (.cells #[.int .i64 1, .string (⟨#[]⟩ : ByteArray), .string (⟨#[]⟩ : ByteArray), .string (⟨#[]⟩ : ByteArray), u179004] 25 (0, 0))) ∧ Aside0 (IsS83 w0 w' g s0_0 x1001_1 x1002_1 x1003_1) ∧ Aside0 (KeepBut w w' g none) ∧ Aside0 (Below w0.heap.size w0 w'))
 case atStart => exact ⟨(s0_1), (s0_2), (s0_3), (([] : List ByteArray)), (.slice none 0 0), H', ⟨Nat.le_refl _⟩, ⟨by first | exact Kd.R_nil _ _ _ _ _ | exact Kd.N_nil _ _ _ _ _ | exact Kd.V_nil _ _ _ _ _ | exact Kd.Q_nil _ _ _ _ _ | exact Kd.S_nil _ _ _ _ _⟩, ⟨kM BK178⟩, ⟨yI⟩, ⟨(kK HK)⟩, ⟨(kLI HB)⟩⟩
 case round =>
  clear H'
  try clear c1
  try clear p2
  try clear c3
  try clear hcz4_0 hcz4_1 hcz4_2 hcz4_3 hcz4_4 hfz4_0 hfz4_1 hfz4_2 hfz4_3 hfz4_4
  obtain ⟨x1001_1, x1002_1, x1003_1, x179004_1, u179004, HA, HK1, HO_179004, BK178, HI0, HK, HB⟩ := hrel
  cases gk with
  | zero => exact absurd HA.out (by simp [parse_parser_literal.l0])
  | succ k1 =>
   have H := HA.out
   clear HA
   simp only [parse_parser_literal.l0] at H
   obtain ⟨⟨t179, t180, t181, t182, t183, t184⟩, A5, H⟩ := bO H
   try dsimp only at H
   by_cases c6 : t179 = 1
   ·rw [if_pos c6] at H
    have c6b0 := eT c6
    have c6b1 := nF c6
    clear c6
    by_cases c7 : (x179004_1.length : Int) = 100
    ·rw [if_pos c7] at H
     have c7b0 := eT c7
     have c7b1 := nF c7
     clear c7
     obtain ⟨t188, A8, H⟩ := bO H
     try dsimp only at H
     simp only [Option.some.injEq, Prod.mk.injEq] at H
     obtain ⟨rfl, rfl, rfl, rfl⟩ := H
     go_wp2_with (first | ((with_reducible refine gC 67 rfl ?_); refine gL (some 8) Try.func67 #[.pointer (some ⟨g, 0, none⟩), .int .i64 0] ?_; (with_reducible refine (parse_parser_look.calls _ _ _ _ _ _ _ _ _ _ _ _ w0 _ ?side1 ?side2 A5.out).mono ?_); (case side1 => exact yI); (case side2 => exact (kLI HB)); rintro e w9 ⟨rfl, hi, hb, hk⟩; refine ⟨_, rfl, ?_⟩; replace HO_179004 := am (Kd.R_mono (Kd.R_keep (IsS83.apart (show IsS83 w0 _ g s0_0 x1001_1 x1002_1 x1003_1 from yI) (rB HO_179004) (by decide)) hk (fun _ h => h.2)) (fun _ h => h.1)); replace BK178 := am (KeepBut.blk hk (kB BK178) NB178_0.out (by simp)); replace HK := am (KeepBut.trans (kK HK) hk (.inl rfl)); replace HB := am hb; replace HI0 := am hi; (try clear hi hb hk); have hnb10 := NB178_0.out; have hnc10 := NB0_178.out; obtain ⟨hcz11_0, hcz11_1, hcz11_2, hcz11_3, hcz11_4, hfz11_0, hfz11_1, hfz11_2, hfz11_3, hfz11_4⟩ := bk5 BK178.out; obtain ⟨Ao12, co12, eo12⟩ := Kd.R_slice HO_179004.out; subst eo12; obtain ⟨ASz13_0, cSz13_0, HSz13_0, hcz13_0, hcz13_1, hcz13_2, hcz13_3, hfz13_1, hfz13_2, hfz13_3⟩ := IsS83.look HI0.out) | ((with_reducible refine gate_store (t := 4) (p := 17) rfl ?_); refine store_event (t := 4) (p := 17) (v := ?vo_w14) (w1 := (w9.setCell ⟨g, 3, none⟩ (.bool true))) ?hg ?ho ?hn ?hr ?_; (case ho => rfl); (case hg => rfl); (case hn => rfl); (case hr => first | (go_simp; done) | (go_simp; rfl)); intro w14 hw; have n0_ : Aside0 (Kd.R Kd.string 9 w14 w.heap.size (fun k_ => (w.heap.size ≤ k_)) (.slice Ao12 x179004_1.length co12) x179004_1) := ⟨(by rw [hw]; exact (by (with_reducible repeat (first | apply Kd.R_alloc | apply Kd.R_drewN | apply Kd.R_drew)); exact Kd.R_mono (Kd.R_far (p := ⟨g, 3, none⟩) (IsS83.apart HI0.out HO_179004.out (by decide)) (fun _ hk => hk.2) (.bool true)) (fun _ hk => hk.1)))⟩; have n1_ : Aside0 (w14.heap[gb178]? = some (.cells #[.int .i64 1, .string (⟨#[]⟩ : ByteArray), .string (⟨#[]⟩ : ByteArray), .string (⟨#[]⟩ : ByteArray), .slice Ao12 x179004_1.length co12] 25 (0, 0))) := ⟨(by rw [hw]; exact (kM BK178))⟩; have n2_ : Aside0 (IsS83 w0 w14 g s0_0 t182 t183 true) := ⟨(by rw [hw]; exact yI)⟩; have n3_ : Aside0 (KeepBut w w14 g none) := ⟨(by rw [hw]; exact (kK HK))⟩; have n4_ : Aside0 (Below w0.heap.size w0 w14) := ⟨(by rw [hw]; exact (kLI HB))⟩; clear hw; clear HO_179004; clear BK178; clear HI0; clear HK; clear HB; have HO_179004 := n0_; have BK178 := n1_; have HI0 := n2_; have HK := n3_; have HB := n4_; clear n0_ n1_ n2_ n3_ n4_; obtain ⟨hcz15_0, hcz15_1, hcz15_2, hcz15_3, hcz15_4, hfz15_0, hfz15_1, hfz15_2, hfz15_3, hfz15_4⟩ := bk5 BK178.out) | ((with_reducible refine gC 32 rfl ?_); refine gL (some 39) Try.func32 #[.agg #[.int .i64 1, .string (⟨#[]⟩ : ByteArray), .string (⟨#[]⟩ : ByteArray), .string (⟨#[]⟩ : ByteArray), .slice Ao12 x179004_1.length co12], .slice none 0 0] ?_; (refine (tree_Node.calls _ _ _ _ _ (fun k_ => some k_ = (.slice Ao12 x179004_1.length co12 : Value).ownBlock) _ _ _ (fun k_ => False) _ _ _ _ _ ?side1 ?side2 A8.out).mono ?_); (case side1 => exact Kd.R_V (Kd.R_tight rfl (IsS83.apart HI0.out (Kd.R_types (HO_179004.out) BK178.out (by decide)) (by decide)))); (case side2 => exact Kd.V_nil _ _ _ _ _); rintro e w16 ⟨v189, rfl, ho0, hb⟩; refine ⟨_, rfl, ?_⟩; have HO190 := am (Kd.N_lower (Kd.N_mono (ok' := fun k_ => (w.heap.size ≤ k_) ∧ k_ ≠ gb178 ∧ k_ ≠ g) ho0 (fun k_ hk_ => ⟨Or.elim hk_ (fun hs_ => Or.elim hs_ (fun hs_ => ((IsS83.apart HI0.out (Kd.R_types (HO_179004.out) BK178.out (by decide)) (by decide)).1 k_ hs_.symm).1.1) (fun hs_ => (hs_).elim)) (fun hn_ => (Nat.le_trans (keep_size (w := w) (g := g) (row := none) (kK HK)) hn_)), Or.elim hk_ (fun hs_ => Or.elim hs_ (fun hs_ => ((IsS83.apart HI0.out (Kd.R_types (HO_179004.out) BK178.out (by decide)) (by decide)).1 k_ hs_.symm).1.2) (fun hs_ => (hs_).elim)) (fun hn_ => (Kd.freshB (g := gb178) (o := .cells #[.int .i64 1, .string (⟨#[]⟩ : ByteArray), .string (⟨#[]⟩ : ByteArray), .string (⟨#[]⟩ : ByteArray), .slice Ao12 x179004_1.length co12] 25 (0, 0)) (kB BK178) k_ hn_)), Or.elim hk_ (fun hs_ => Or.elim hs_ (fun hs_ => ((IsS83.apart HI0.out (Kd.R_types (HO_179004.out) BK178.out (by decide)) (by decide)).1 k_ hs_.symm).2) (fun hs_ => (hs_).elim)) (fun hn_ => (IsS83.fresh yI k_ hn_))⟩)) (keep_size (w := w) (g := g) (row := none) (kK HK))); replace HO_179004 := am (Kd.R_below (rB HO_179004) hb); replace BK178 := am (bB (kB BK178) hb); replace HK := am (KeepBut.trans (kK HK) (KeepBut.of_below hb g none) (.inl rfl)); replace HB := am (below_step (kLI HB) hb); replace HI0 := am (IsS83.below yI hb); (try clear ho0 hb)))
     go_ret
     exact ⟨_, yE, Kd.N_mono (nB HO190) (fun _ hk => hk.1), yI, (kLI HB), (kK HK)⟩
    ·rw [if_neg c7] at H
     have c7b0 := eF c7
     have c7b1 := nT c7
     obtain ⟨⟨t191, t192, t193, t194, t195, t196⟩, A17, H⟩ := bO H
     try dsimp only at H
     obtain ⟨⟨t197, t198⟩, A18, H⟩ := bO H
     try dsimp only at H
     by_cases c19 : x179004_1.length < 8796093022208
     ·rw [if_pos c19] at H
      have LMc19 := am c19
      clear c19
      obtain ⟨y199, hy199⟩ : ∃ y_ : List ByteArray, y_ = (x179004_1 ++ [t197]) := ⟨_, rfl⟩
      replace H : (parse_parser_literal.l0 k1 s0_0 (wrap64 (t194 + 1)) t195 t196 1 (⟨#[]⟩ : ByteArray) (⟨#[]⟩ : ByteArray) (⟨#[]⟩ : ByteArray) y199) = some (r1, r2, r3, r4) := by first | (rw [hy199]; with_reducible exact H) | (have H2_ := (Option.bind_some _ _).symm.trans H; rw [hy199]; with_reducible exact H2_) | (have H2_ := (Option.bind_some _ _).symm.trans H; with_reducible exact H2_) | with_reducible exact H | (rw [hy199]; exact H) | exact H
      have Ny199 := am hy199
      clear hy199
      have H' := am H
      clear H
      go_wp2_with (first | ((with_reducible refine gC 67 rfl ?_); refine gL (some 8) Try.func67 #[.pointer (some ⟨g, 0, none⟩), .int .i64 0] ?_; (with_reducible refine (parse_parser_look.calls _ _ _ _ _ _ _ _ _ _ _ _ w0 _ ?side1 ?side2 A5.out).mono ?_); (case side1 => exact yI); (case side2 => exact (kLI HB)); rintro e w20 ⟨rfl, hi, hb, hk⟩; refine ⟨_, rfl, ?_⟩; replace HO_179004 := am (Kd.R_mono (Kd.R_keep (IsS83.apart (show IsS83 w0 _ g s0_0 x1001_1 x1002_1 x1003_1 from yI) (rB HO_179004) (by decide)) hk (fun _ h => h.2)) (fun _ h => h.1)); replace BK178 := am (KeepBut.blk hk (kB BK178) NB178_0.out (by simp)); replace HK := am (KeepBut.trans (kK HK) hk (.inl rfl)); replace HB := am hb; replace HI0 := am hi; (try clear hi hb hk); have hnb21 := NB178_0.out; have hnc21 := NB0_178.out; obtain ⟨hcz22_0, hcz22_1, hcz22_2, hcz22_3, hcz22_4, hfz22_0, hfz22_1, hfz22_2, hfz22_3, hfz22_4⟩ := bk5 BK178.out; obtain ⟨Ao23, co23, eo23⟩ := Kd.R_slice HO_179004.out; subst eo23) | ((with_reducible refine gC 67 rfl ?_); refine gL (some 20) Try.func67 #[.pointer (some ⟨g, 0, none⟩), .int .i64 0] ?_; (with_reducible refine (parse_parser_look.calls _ _ _ _ _ _ _ _ _ _ _ _ w0 _ ?side1 ?side2 A17.out).mono ?_); (case side1 => exact yI); (case side2 => exact (kLI HB)); rintro e w24 ⟨rfl, hi, hb, hk⟩; refine ⟨_, rfl, ?_⟩; replace HO_179004 := am (Kd.R_mono (Kd.R_keep (IsS83.apart (show IsS83 w0 _ g s0_0 t182 t183 t184 from yI) (rB HO_179004) (by decide)) hk (fun _ h => h.2)) (fun _ h => h.1)); replace BK178 := am (KeepBut.blk hk (kB BK178) NB178_0.out (by simp)); replace HK := am (KeepBut.trans (kK HK) hk (.inl rfl)); replace HB := am hb; replace HI0 := am hi; (try clear hi hb hk)) | ((with_reducible refine gC 91 rfl ?_); refine gL (some 22) Try.func91 #[.string t192] ?_; (with_reducible refine (lex_Number.calls _ _ _ _ _ A18.out).mono ?_); rintro e w25 ⟨rfl, hb⟩; refine ⟨_, rfl, ?_⟩; replace HO_179004 := am (Kd.R_below (rB HO_179004) hb); replace BK178 := am (bB (kB BK178) hb); replace HK := am (KeepBut.trans (kK HK) (KeepBut.of_below hb g none) (.inl rfl)); replace HB := am (below_step (kLI HB) hb); replace HI0 := am (IsS83.below yI hb); (try clear hb); obtain ⟨hcz26_0, hcz26_1, hcz26_2, hcz26_3, hcz26_4, hfz26_0, hfz26_1, hfz26_2, hfz26_3, hfz26_4⟩ := bk5 BK178.out) | ((with_reducible refine gate_builtin (b := .append) (xs := #[.tmp 26, .tmp 28]) rfl ?_); at_builtin; refine Kd.R_append Kd.string w.heap.size rfl (.tmp 26) (.tmp 28) 23 9 (.string ⟨#[]⟩) 16 rfl Try.underlying23 info9 rfl (by decide) (by omega) (.slice Ao23 x179004_1.length co23) x179004_1 t197 [.string t197] (fun k_ => (w.heap.size ≤ k_)) (fun _ => False) rfl rfl ?aP (fun _ hk => hk.elim) ?aF ?aO (Below.refl _ _) ?aS ?aL ?_; (case aP => exact rfl); (case aF => exact (fun k_ hk => (Nat.le_trans (keep_size (w := w) (g := g) (row := none) (kK HK)) hk))); (case aO => exact (rB HO_179004)); (case aS => exact (keep_size (w := w) (g := g) (row := none) (kK HK))); (case aL => have := LMc19.out; omega); intro v200 w27 ho hb hg hat; rw [← Ny199.out] at ho; have n0_ := am (blk_grown (g := gb178) (o := .cells #[.int .i64 1, .string (⟨#[]⟩ : ByteArray), .string (⟨#[]⟩ : ByteArray), .string (⟨#[]⟩ : ByteArray), .slice Ao23 x179004_1.length co23] 25 (0, 0)) (kB BK178) hg (Kd.R_ne HO_179004.out BK178.out (by decide))); have n1_ := am (IsS83.grown yI hg (IsS83.own_ne HI0.out HO_179004.out (by decide))); have n2_ := am (below_weaken (kLI HB) HL.out hb); have n3_ := am (KeepBut.trans (kK HK) (KeepBut.of_grown hg g) (Kd.R_base2 HO_179004.out)); have n4_ := am (ho); clear BK178; clear HI0; clear HB; clear HK; clear HO_179004; have BK178 := n0_; have HI0 := n1_; have HB := n2_; have HK := n3_; have HO201 := n4_; clear n0_ n1_ n2_ n3_ n4_; clear ho hb hg hat; obtain ⟨Ao28, co28, eo28⟩ := Kd.R_slice HO201.out; subst eo28; obtain ⟨hcz29_0, hcz29_1, hcz29_2, hcz29_3, hcz29_4, hfz29_0, hfz29_1, hfz29_2, hfz29_3, hfz29_4⟩ := bk5 BK178.out; obtain ⟨ASz30_0, cSz30_0, HSz30_0, hcz30_0, hcz30_1, hcz30_2, hcz30_3, hfz30_1, hfz30_2, hfz30_3⟩ := IsS83.look HI0.out))
      go_roundg k1
      case measure => have := HK1.out; omega
      case rel => exact ⟨(wrap64 (t194 + 1)), (t195), (t196), (y199), (.slice Ao28 y199.length co28), H', ⟨by have := HK1.out; omega⟩, ⟨by (with_reducible repeat (first | apply Kd.R_alloc | apply Kd.R_drewN | apply Kd.R_drew)); exact Kd.R_mono (Kd.R_far (p := ⟨g, 1, none⟩) (Kd.R_far (p := ⟨gb178, 4, none⟩) (IsS83.apart HI0.out (Kd.R_types HO201.out BK178.out (by decide)) (by decide)) (fun _ hk => hk.1.2) (.slice Ao28 y199.length co28)) (fun _ hk => hk.2) (.int .i64 (wrap64 (t194 + 1)))) (fun _ hk => hk.1.1)⟩, ⟨kM BK178⟩, ⟨yI⟩, ⟨(kK HK)⟩, ⟨(kLI HB)⟩⟩
     ·rw [if_neg c19] at H
      exact absurd H (by simp)
   ·rw [if_neg c6] at H
    have c6b0 := eF c6
    have c6b1 := nT c6
    obtain ⟨t185, A31, H⟩ := bO H
    try dsimp only at H
    simp only [Option.some.injEq, Prod.mk.injEq] at H
    obtain ⟨rfl, rfl, rfl, rfl⟩ := H
    go_wp2_with (first | ((with_reducible refine gC 67 rfl ?_); refine gL (some 8) Try.func67 #[.pointer (some ⟨g, 0, none⟩), .int .i64 0] ?_; (with_reducible refine (parse_parser_look.calls _ _ _ _ _ _ _ _ _ _ _ _ w0 _ ?side1 ?side2 A5.out).mono ?_); (case side1 => exact yI); (case side2 => exact (kLI HB)); rintro e w32 ⟨rfl, hi, hb, hk⟩; refine ⟨_, rfl, ?_⟩; replace HO_179004 := am (Kd.R_mono (Kd.R_keep (IsS83.apart (show IsS83 w0 _ g s0_0 x1001_1 x1002_1 x1003_1 from yI) (rB HO_179004) (by decide)) hk (fun _ h => h.2)) (fun _ h => h.1)); replace BK178 := am (KeepBut.blk hk (kB BK178) NB178_0.out (by simp)); replace HK := am (KeepBut.trans (kK HK) hk (.inl rfl)); replace HB := am hb; replace HI0 := am hi; (try clear hi hb hk); have hnb33 := NB178_0.out; have hnc33 := NB0_178.out; obtain ⟨hcz34_0, hcz34_1, hcz34_2, hcz34_3, hcz34_4, hfz34_0, hfz34_1, hfz34_2, hfz34_3, hfz34_4⟩ := bk5 BK178.out; obtain ⟨Ao35, co35, eo35⟩ := Kd.R_slice HO_179004.out; subst eo35) | ((with_reducible refine gC 32 rfl ?_); refine gL (some 39) Try.func32 #[.agg #[.int .i64 1, .string (⟨#[]⟩ : ByteArray), .string (⟨#[]⟩ : ByteArray), .string (⟨#[]⟩ : ByteArray), .slice Ao35 x179004_1.length co35], .slice none 0 0] ?_; (refine (tree_Node.calls _ _ _ _ _ (fun k_ => some k_ = (.slice Ao35 x179004_1.length co35 : Value).ownBlock) _ _ _ (fun k_ => False) _ _ _ _ _ ?side1 ?side2 A31.out).mono ?_); (case side1 => exact Kd.R_V (Kd.R_tight rfl (IsS83.apart HI0.out (Kd.R_types (HO_179004.out) BK178.out (by decide)) (by decide)))); (case side2 => exact Kd.V_nil _ _ _ _ _); rintro e w36 ⟨v186, rfl, ho0, hb⟩; refine ⟨_, rfl, ?_⟩; have HO187 := am (Kd.N_lower (Kd.N_mono (ok' := fun k_ => (w.heap.size ≤ k_) ∧ k_ ≠ gb178 ∧ k_ ≠ g) ho0 (fun k_ hk_ => ⟨Or.elim hk_ (fun hs_ => Or.elim hs_ (fun hs_ => ((IsS83.apart HI0.out (Kd.R_types (HO_179004.out) BK178.out (by decide)) (by decide)).1 k_ hs_.symm).1.1) (fun hs_ => (hs_).elim)) (fun hn_ => (Nat.le_trans (keep_size (w := w) (g := g) (row := none) (kK HK)) hn_)), Or.elim hk_ (fun hs_ => Or.elim hs_ (fun hs_ => ((IsS83.apart HI0.out (Kd.R_types (HO_179004.out) BK178.out (by decide)) (by decide)).1 k_ hs_.symm).1.2) (fun hs_ => (hs_).elim)) (fun hn_ => (Kd.freshB (g := gb178) (o := .cells #[.int .i64 1, .string (⟨#[]⟩ : ByteArray), .string (⟨#[]⟩ : ByteArray), .string (⟨#[]⟩ : ByteArray), .slice Ao35 x179004_1.length co35] 25 (0, 0)) (kB BK178) k_ hn_)), Or.elim hk_ (fun hs_ => Or.elim hs_ (fun hs_ => ((IsS83.apart HI0.out (Kd.R_types (HO_179004.out) BK178.out (by decide)) (by decide)).1 k_ hs_.symm).2) (fun hs_ => (hs_).elim)) (fun hn_ => (IsS83.fresh yI k_ hn_))⟩)) (keep_size (w := w) (g := g) (row := none) (kK HK))); replace HO_179004 := am (Kd.R_below (rB HO_179004) hb); replace BK178 := am (bB (kB BK178) hb); replace HK := am (KeepBut.trans (kK HK) (KeepBut.of_below hb g none) (.inl rfl)); replace HB := am (below_step (kLI HB) hb); replace HI0 := am (IsS83.below yI hb); (try clear ho0 hb)))
    go_ret
    exact ⟨_, yE, Kd.N_mono (nB HO187) (fun _ hk => hk.1), yI, (kLI HB), (kK HK)⟩
def parse_parser_atom.f (EXF : EX_F) (k : Nat) (s0_0 : List (S71)) (s0_1 : Int) (s0_2 : Int) (s0_3 : Bool) : Option ((List (S25)) × Int × Int × Bool) := (parse_parser_look.f s0_0 s0_1 s0_2 s0_3 0).bind fun bt202 => (if bt202.1 = 1 then ((parse_parser_literal.f k s0_0 bt202.2.2.2.1 bt202.2.2.2.2.1 bt202.2.2.2.2.2).bind fun bt209 => (some (bt209.1, bt209.2.1, bt209.2.2.1, bt209.2.2.2))) else (if bt202.1 = 2 then ((tree_Node.f k 2 (⟨#[]⟩ : ByteArray) (⟨#[]⟩ : ByteArray) bt202.2.1 ([] : List ByteArray) ([] : List (List (S25)))).bind fun t215 => (some (t215, wrap64 (bt202.2.2.2.1 + 1), bt202.2.2.2.2.1, bt202.2.2.2.2.2))) else ((parse_parser_mark.f s0_0 bt202.2.2.2.1 bt202.2.2.2.2.1 bt202.2.2.2.2.2 (⟨#[40]⟩ : ByteArray)).bind fun bt218 => (if bt218.2.2 = true then (some (([] : List (S25)), bt218.1, bt218.2.1, bt218.2.2)) else ((EXF s0_0 bt218.1 bt218.2.1 bt218.2.2).bind fun bt221 => ((parse_parser_mark.f s0_0 bt221.2.1 bt221.2.2.1 bt221.2.2.2 (⟨#[41]⟩ : ByteArray)).bind fun bt227 => (some (bt221.1, bt227.1, bt227.2.1, bt227.2.2))))))))
theorem parse_parser_atom.mono (EXF : EX_F) : ∀ a0 a1 a2 a3 k, LeO (parse_parser_atom.f EXF k a0 a1 a2 a3) (parse_parser_atom.f EXF (k + 1) a0 a1 a2 a3) := by
 intro a0 a1 a2 a3 k
 unfold parse_parser_atom.f
 with_reducible repeat' first
   | exact parse_parser_literal.mono _ _ _ _ _
   | exact tree_Node.mono _ _ _ _ _ _ _
   | exact LeO.refl _
   | exact LeO.none _
   | refine LeO.ite ?_ ?_
   | refine LeO.bind ?_ (fun _ => ?_)
set_option maxHeartbeats 8000000 in
set_option maxRecDepth 100000 in
theorem parse_parser_atom.calls (EXF : EX_F) (EXC : EX_C EXF) (k : Nat) (g : Nat) (s0_0 : List (S71)) (s0_1 : Int) (s0_2 : Int) (s0_3 : Bool) (r1 : List (S25)) (r2 : Int) (r3 : Int) (r4 : Bool) (w0 w : World) (hI : IsS83 w0 w g s0_0 s0_1 s0_2 s0_3) (hB : Below w0.heap.size w0 w) (h : parse_parser_atom.f EXF k s0_0 s0_1 s0_2 s0_3 = some (r1, r2, r3, r4)) :
  Calls Try.prog 123 #[.pointer (some ⟨g, 0, none⟩)] w fun e w' => ∃ v0_ : Value, e = .returned (v0_) ∧ Kd.N k25 25 w' w.heap.size (fun k_ => (w.heap.size ≤ k_)) v0_ r1 ∧ IsS83 w0 w' g s0_0 r2 r3 r4 ∧ Below w0.heap.size w0 w' ∧ KeepBut w w' g none := by
 have hu71 := Try.underlying71
 have hu25 := Try.underlying25
 have HI0 := am hI
 have HK := am (KeepBut.refl w g none)
 have HL := am hB.size
 clear hI
 have HW0 := am hB.size
 have HB := am hB
 clear hB
 unfold parse_parser_atom.f at h
 have H := h
 clear h
 obtain ⟨⟨t202, t203, t204, t205, t206, t207⟩, A2, H⟩ := bO H
 try dsimp only at H
 by_cases c3 : t202 = 1
 ·rw [if_pos c3] at H
  have c3b0 := eT c3
  have c3b1 := nF c3
  clear c3
  obtain ⟨⟨t209, t212, t213, t214⟩, A4, H⟩ := bO H
  try dsimp only at H
  simp only [Option.some.injEq, Prod.mk.injEq] at H
  obtain ⟨rfl, rfl, rfl, rfl⟩ := H
  go_enter Try.func123, Try.ntmps123
  go_wp2_with (first | ((with_reducible refine gC 67 rfl ?_); refine gL (some 6) Try.func67 #[.pointer (some ⟨g, 0, none⟩), .int .i64 0] ?_; (with_reducible refine (parse_parser_look.calls _ _ _ _ _ _ _ _ _ _ _ _ w0 _ ?side1 ?side2 A2.out).mono ?_); (case side1 => exact yI); (case side2 => exact (kLI HB)); rintro e w5 ⟨rfl, hi, hb, hk⟩; refine ⟨_, rfl, ?_⟩; replace HK := am (KeepBut.trans (kK HK) hk (.inl rfl)); replace HB := am hb; replace HI0 := am hi; (try clear hi hb hk)) | ((with_reducible refine gD 3 rfl ?_); refine bx 3 #[.int .i64 0, .string (⟨#[]⟩ : ByteArray), .int .i64 0] 71 ?_; intro gb208 hg w6 hbox hb; replace HB := am (below_step (kLI HB) hb); have BK208 := am hbox; have GW208 := am ((by rw [hg]; exact (keep_size (w := w) (g := g) (row := none) (kK HK)) : w.heap.size ≤ gb208)); have GE208 := am ((Nat.le_trans HW0.out (by rw [hg]; exact (keep_size (w := w) (g := g) (row := none) (kK HK)) : w.heap.size ≤ gb208) : w0.heap.size ≤ gb208)); replace HK := am (KeepBut.trans (kK HK) (KeepBut.of_below hb g none) (.inl rfl)); have NB0_208 := am ((by rw [hg]; exact Nat.ne_of_lt (IsS83.lt (show IsS83 w0 _ g s0_0 t205 t206 t207 from yI)) : g ≠ gb208)); have NB208_0 := am ((by rw [hg]; exact Nat.ne_of_gt (IsS83.lt (show IsS83 w0 _ g s0_0 t205 t206 t207 from yI)) : gb208 ≠ g)); replace HI0 := am (IsS83.below yI hb); clear hb hbox hg; have hnb7 := NB208_0.out; have hnc7 := NB0_208.out; obtain ⟨hcz8_0, hcz8_1, hcz8_2, hfz8_0, hfz8_1, hfz8_2⟩ := bk3 BK208.out) | ((with_reducible refine gC 130 rfl ?_); refine gL (some 12) Try.func130 #[.pointer (some ⟨g, 0, none⟩)] ?_; (with_reducible refine (parse_parser_literal.calls _ _ _ _ _ _ _ _ _ _ w0 _ ?side1 ?side2 A4.out).mono ?_); (case side1 => exact yI); (case side2 => exact (kLI HB)); rintro e w9 ⟨v210, rfl, ho0, hi, hb, hk⟩; refine ⟨_, rfl, ?_⟩; have HO211 := am (Kd.N_lower (Kd.N_mono (ok' := fun k_ => (w.heap.size ≤ k_) ∧ k_ ≠ gb208 ∧ k_ ≠ g) ho0 (fun k_ hk_ => ⟨(Nat.le_trans (keep_size (w := w) (g := g) (row := none) (kK HK)) hk_), (fB BK208 k_ hk_), (IsS83.fresh yI k_ hk_)⟩)) (keep_size (w := w) (g := g) (row := none) (kK HK))); replace BK208 := am (KeepBut.blk hk (g' := gb208) (o := .cells #[.int .i64 t202, .string t203, .int .i64 t204] 71 (0, 0)) (kM BK208) NB208_0.out (by simp)); replace HK := am (KeepBut.trans (kK HK) hk (.inl rfl)); replace HB := am hb; replace HI0 := am hi; (try clear ho0 hi hb hk)))
  go_ret
  exact ⟨_, yE, Kd.N_mono (nB HO211) (fun _ hk => hk.1), yI, (kLI HB), (kK HK)⟩
 ·rw [if_neg c3] at H
  have c3b0 := eF c3
  have c3b1 := nT c3
  by_cases c10 : t202 = 2
  ·rw [if_pos c10] at H
   have c10b0 := eT c10
   have c10b1 := nF c10
   clear c10
   obtain ⟨t215, A11, H⟩ := bO H
   try dsimp only at H
   simp only [Option.some.injEq, Prod.mk.injEq] at H
   obtain ⟨rfl, rfl, rfl, rfl⟩ := H
   go_enter Try.func123, Try.ntmps123
   go_wp2_with (first | ((with_reducible refine gC 67 rfl ?_); refine gL (some 6) Try.func67 #[.pointer (some ⟨g, 0, none⟩), .int .i64 0] ?_; (with_reducible refine (parse_parser_look.calls _ _ _ _ _ _ _ _ _ _ _ _ w0 _ ?side1 ?side2 A2.out).mono ?_); (case side1 => exact yI); (case side2 => exact (kLI HB)); rintro e w12 ⟨rfl, hi, hb, hk⟩; refine ⟨_, rfl, ?_⟩; replace HK := am (KeepBut.trans (kK HK) hk (.inl rfl)); replace HB := am hb; replace HI0 := am hi; (try clear hi hb hk)) | ((with_reducible refine gD 3 rfl ?_); refine bx 3 #[.int .i64 0, .string (⟨#[]⟩ : ByteArray), .int .i64 0] 71 ?_; intro gb208 hg w13 hbox hb; replace HB := am (below_step (kLI HB) hb); have BK208 := am hbox; have GW208 := am ((by rw [hg]; exact (keep_size (w := w) (g := g) (row := none) (kK HK)) : w.heap.size ≤ gb208)); have GE208 := am ((Nat.le_trans HW0.out (by rw [hg]; exact (keep_size (w := w) (g := g) (row := none) (kK HK)) : w.heap.size ≤ gb208) : w0.heap.size ≤ gb208)); replace HK := am (KeepBut.trans (kK HK) (KeepBut.of_below hb g none) (.inl rfl)); have NB0_208 := am ((by rw [hg]; exact Nat.ne_of_lt (IsS83.lt (show IsS83 w0 _ g s0_0 t205 t206 t207 from yI)) : g ≠ gb208)); have NB208_0 := am ((by rw [hg]; exact Nat.ne_of_gt (IsS83.lt (show IsS83 w0 _ g s0_0 t205 t206 t207 from yI)) : gb208 ≠ g)); replace HI0 := am (IsS83.below yI hb); clear hb hbox hg; have hnb14 := NB208_0.out; have hnc14 := NB0_208.out; obtain ⟨hcz15_0, hcz15_1, hcz15_2, hfz15_0, hfz15_1, hfz15_2⟩ := bk3 BK208.out) | ((with_reducible refine gate_store (t := 71) (p := 3) rfl ?_); refine store_event (t := 71) (p := 3) (v := ?vo_w16) (w1 := (((w13.setCell ⟨gb208, 0, none⟩ (.int .i64 t202)).setCell ⟨gb208, 1, none⟩ (.string t203)).setCell ⟨gb208, 2, none⟩ (.int .i64 t204))) ?hg ?ho ?hn ?hr ?_; (case ho => rfl); (case hg => rfl); (case hn => rfl); (case hr => first | (go_simp; done) | (go_simp; rfl)); intro w16 hw; have n0_ : Aside0 (w16.heap[gb208]? = some (.cells #[.int .i64 t202, .string t203, .int .i64 t204] 71 (0, 0))) := ⟨(by rw [hw]; exact (kM BK208))⟩; have n1_ : Aside0 (IsS83 w0 w16 g s0_0 t205 t206 t207) := ⟨(by rw [hw]; exact yI)⟩; have n2_ : Aside0 (KeepBut w w16 g none) := ⟨(by rw [hw]; exact (kK HK))⟩; have n3_ : Aside0 (Below w0.heap.size w0 w16) := ⟨(by rw [hw]; exact (kLI HB))⟩; clear hw; clear BK208; clear HI0; clear HK; clear HB; have BK208 := n0_; have HI0 := n1_; have HK := n2_; have HB := n3_; clear n0_ n1_ n2_ n3_; obtain ⟨hcz17_0, hcz17_1, hcz17_2, hfz17_0, hfz17_1, hfz17_2⟩ := bk3 BK208.out; obtain ⟨ASz18_0, cSz18_0, HSz18_0, hcz18_0, hcz18_1, hcz18_2, hcz18_3, hfz18_1, hfz18_2, hfz18_3⟩ := IsS83.look HI0.out) | ((with_reducible refine gC 32 rfl ?_); refine gL (some 27) Try.func32 #[.agg #[.int .i64 2, .string (⟨#[]⟩ : ByteArray), .string (⟨#[]⟩ : ByteArray), .string t203, .slice none 0 0], .slice none 0 0] ?_; (refine (tree_Node.calls _ _ _ _ _ (fun k_ => False) _ _ _ (fun k_ => False) _ _ _ _ _ ?side1 ?side2 A11.out).mono ?_); (case side1 => exact Kd.V_nil _ _ _ _ _); (case side2 => exact Kd.V_nil _ _ _ _ _); rintro e w19 ⟨v216, rfl, ho0, hb⟩; refine ⟨_, rfl, ?_⟩; have HO217 := am (Kd.N_lower (Kd.N_mono (ok' := fun k_ => (w.heap.size ≤ k_) ∧ k_ ≠ gb208 ∧ k_ ≠ g) ho0 (fun k_ hk_ => ⟨Or.elim hk_ (fun hs_ => Or.elim hs_ (fun hs_ => (hs_).elim) (fun hs_ => (hs_).elim)) (fun hn_ => (Nat.le_trans (keep_size (w := w) (g := g) (row := none) (kK HK)) hn_)), Or.elim hk_ (fun hs_ => Or.elim hs_ (fun hs_ => (hs_).elim) (fun hs_ => (hs_).elim)) (fun hn_ => (Kd.freshB (g := gb208) (o := .cells #[.int .i64 t202, .string t203, .int .i64 t204] 71 (0, 0)) (kM BK208) k_ hn_)), Or.elim hk_ (fun hs_ => Or.elim hs_ (fun hs_ => (hs_).elim) (fun hs_ => (hs_).elim)) (fun hn_ => (IsS83.fresh yI k_ hn_))⟩)) (keep_size (w := w) (g := g) (row := none) (kK HK))); replace BK208 := am (bB (g := gb208) (o := .cells #[.int .i64 t202, .string t203, .int .i64 t204] 71 (0, 0)) (kM BK208) hb); replace HK := am (KeepBut.trans (kK HK) (KeepBut.of_below hb g none) (.inl rfl)); replace HB := am (below_step (kLI HB) hb); replace HI0 := am (IsS83.below (show IsS83 w0 (w16.setCell ⟨g, 1, none⟩ (.int .i64 (wrap64 (t205 + 1)))) g s0_0 (wrap64 (t205 + 1)) t206 t207 from yI) hb); (try clear ho0 hb)))
   go_ret
   exact ⟨_, yE, Kd.N_mono (nB HO217) (fun _ hk => hk.1), yI, (kLI HB), (kK HK)⟩
  ·rw [if_neg c10] at H
   have c10b0 := eF c10
   have c10b1 := nT c10
   obtain ⟨⟨t218, t219, t220⟩, A20, H⟩ := bO H
   try dsimp only at H
   by_cases c21 : t220 = true
   ·subst c21
    rw [if_pos rfl] at H
    simp only [Option.some.injEq, Prod.mk.injEq] at H
    obtain ⟨rfl, rfl, rfl, rfl⟩ := H
    go_enter Try.func123, Try.ntmps123
    go_wp2_with (first | ((with_reducible refine gC 67 rfl ?_); refine gL (some 6) Try.func67 #[.pointer (some ⟨g, 0, none⟩), .int .i64 0] ?_; (with_reducible refine (parse_parser_look.calls _ _ _ _ _ _ _ _ _ _ _ _ w0 _ ?side1 ?side2 A2.out).mono ?_); (case side1 => exact yI); (case side2 => exact (kLI HB)); rintro e w22 ⟨rfl, hi, hb, hk⟩; refine ⟨_, rfl, ?_⟩; replace HK := am (KeepBut.trans (kK HK) hk (.inl rfl)); replace HB := am hb; replace HI0 := am hi; (try clear hi hb hk)) | ((with_reducible refine gD 3 rfl ?_); refine bx 3 #[.int .i64 0, .string (⟨#[]⟩ : ByteArray), .int .i64 0] 71 ?_; intro gb208 hg w23 hbox hb; replace HB := am (below_step (kLI HB) hb); have BK208 := am hbox; have GW208 := am ((by rw [hg]; exact (keep_size (w := w) (g := g) (row := none) (kK HK)) : w.heap.size ≤ gb208)); have GE208 := am ((Nat.le_trans HW0.out (by rw [hg]; exact (keep_size (w := w) (g := g) (row := none) (kK HK)) : w.heap.size ≤ gb208) : w0.heap.size ≤ gb208)); replace HK := am (KeepBut.trans (kK HK) (KeepBut.of_below hb g none) (.inl rfl)); have NB0_208 := am ((by rw [hg]; exact Nat.ne_of_lt (IsS83.lt (show IsS83 w0 _ g s0_0 t205 t206 t207 from yI)) : g ≠ gb208)); have NB208_0 := am ((by rw [hg]; exact Nat.ne_of_gt (IsS83.lt (show IsS83 w0 _ g s0_0 t205 t206 t207 from yI)) : gb208 ≠ g)); replace HI0 := am (IsS83.below yI hb); clear hb hbox hg; have hnb24 := NB208_0.out; have hnc24 := NB0_208.out; obtain ⟨hcz25_0, hcz25_1, hcz25_2, hfz25_0, hfz25_1, hfz25_2⟩ := bk3 BK208.out) | ((with_reducible refine gC 94 rfl ?_); refine gL (some 29) Try.func94 #[.pointer (some ⟨g, 0, none⟩), .string (⟨#[40]⟩ : ByteArray)] ?_; (with_reducible refine (parse_parser_mark.calls _ _ _ _ _ _ _ _ _ w0 _ ?side1 ?side2 A20.out).mono ?_); (case side1 => exact yI); (case side2 => exact (kLI HB)); rintro e w26 ⟨rfl, hi, hb, hk⟩; refine ⟨_, rfl, ?_⟩; replace BK208 := am (KeepBut.blk hk (g' := gb208) (o := .cells #[.int .i64 t202, .string t203, .int .i64 t204] 71 (0, 0)) (kM BK208) NB208_0.out (by simp)); replace HK := am (KeepBut.trans (kK HK) hk (.inl rfl)); replace HB := am hb; replace HI0 := am hi; (try clear hi hb hk); obtain ⟨ASz27_0, cSz27_0, HSz27_0, hcz27_0, hcz27_1, hcz27_2, hcz27_3, hfz27_1, hfz27_2, hfz27_3⟩ := IsS83.look HI0.out))
    go_ret
    exact ⟨_, yE, yZ, yI, (kLI HB), (kK HK)⟩
   ·replace c21 := Bool.eq_false_iff.mpr c21
    subst c21
    rw [if_neg (show ¬ (false = true) by decide)] at H
    obtain ⟨⟨t221, t224, t225, t226⟩, A28, H⟩ := bO H
    try dsimp only at H
    obtain ⟨⟨t227, t228, t229⟩, A29, H⟩ := bO H
    try dsimp only at H
    simp only [Option.some.injEq, Prod.mk.injEq] at H
    obtain ⟨rfl, rfl, rfl, rfl⟩ := H
    go_enter Try.func123, Try.ntmps123
    go_wp2_with (first | ((with_reducible refine gC 67 rfl ?_); refine gL (some 6) Try.func67 #[.pointer (some ⟨g, 0, none⟩), .int .i64 0] ?_; (with_reducible refine (parse_parser_look.calls _ _ _ _ _ _ _ _ _ _ _ _ w0 _ ?side1 ?side2 A2.out).mono ?_); (case side1 => exact yI); (case side2 => exact (kLI HB)); rintro e w30 ⟨rfl, hi, hb, hk⟩; refine ⟨_, rfl, ?_⟩; replace HK := am (KeepBut.trans (kK HK) hk (.inl rfl)); replace HB := am hb; replace HI0 := am hi; (try clear hi hb hk)) | ((with_reducible refine gD 3 rfl ?_); refine bx 3 #[.int .i64 0, .string (⟨#[]⟩ : ByteArray), .int .i64 0] 71 ?_; intro gb208 hg w31 hbox hb; replace HB := am (below_step (kLI HB) hb); have BK208 := am hbox; have GW208 := am ((by rw [hg]; exact (keep_size (w := w) (g := g) (row := none) (kK HK)) : w.heap.size ≤ gb208)); have GE208 := am ((Nat.le_trans HW0.out (by rw [hg]; exact (keep_size (w := w) (g := g) (row := none) (kK HK)) : w.heap.size ≤ gb208) : w0.heap.size ≤ gb208)); replace HK := am (KeepBut.trans (kK HK) (KeepBut.of_below hb g none) (.inl rfl)); have NB0_208 := am ((by rw [hg]; exact Nat.ne_of_lt (IsS83.lt (show IsS83 w0 _ g s0_0 t205 t206 t207 from yI)) : g ≠ gb208)); have NB208_0 := am ((by rw [hg]; exact Nat.ne_of_gt (IsS83.lt (show IsS83 w0 _ g s0_0 t205 t206 t207 from yI)) : gb208 ≠ g)); replace HI0 := am (IsS83.below yI hb); clear hb hbox hg; have hnb32 := NB208_0.out; have hnc32 := NB0_208.out; obtain ⟨hcz33_0, hcz33_1, hcz33_2, hfz33_0, hfz33_1, hfz33_2⟩ := bk3 BK208.out) | ((with_reducible refine gC 94 rfl ?_); refine gL (some 29) Try.func94 #[.pointer (some ⟨g, 0, none⟩), .string (⟨#[40]⟩ : ByteArray)] ?_; (with_reducible refine (parse_parser_mark.calls _ _ _ _ _ _ _ _ _ w0 _ ?side1 ?side2 A20.out).mono ?_); (case side1 => exact yI); (case side2 => exact (kLI HB)); rintro e w34 ⟨rfl, hi, hb, hk⟩; refine ⟨_, rfl, ?_⟩; replace BK208 := am (KeepBut.blk hk (g' := gb208) (o := .cells #[.int .i64 t202, .string t203, .int .i64 t204] 71 (0, 0)) (kM BK208) NB208_0.out (by simp)); replace HK := am (KeepBut.trans (kK HK) hk (.inl rfl)); replace HB := am hb; replace HI0 := am hi; (try clear hi hb hk); obtain ⟨ASz35_0, cSz35_0, HSz35_0, hcz35_0, hcz35_1, hcz35_2, hcz35_3, hfz35_1, hfz35_2, hfz35_3⟩ := IsS83.look HI0.out) | ((with_reducible refine gC 93 rfl ?_); refine gL (some 35) Try.func93 #[.pointer (some ⟨g, 0, none⟩)] ?_; (with_reducible refine (EXC.out _ _ _ _ _ _ _ _ _ w0 _ ?side1 ?side2 A28.out).mono ?_); (case side1 => exact yI); (case side2 => exact (kLI HB)); rintro e w36 ⟨v222, rfl, ho0, hi, hb, hk⟩; refine ⟨_, rfl, ?_⟩; have HO223 := am (Kd.N_lower (Kd.N_mono (ok' := fun k_ => (w.heap.size ≤ k_) ∧ k_ ≠ gb208 ∧ k_ ≠ g) ho0 (fun k_ hk_ => ⟨(Nat.le_trans (keep_size (w := w) (g := g) (row := none) (kK HK)) hk_), (fB BK208 k_ hk_), (IsS83.fresh yI k_ hk_)⟩)) (keep_size (w := w) (g := g) (row := none) (kK HK))); replace BK208 := am (KeepBut.blk hk (kB BK208) NB208_0.out (by simp)); replace HK := am (KeepBut.trans (kK HK) hk (.inl rfl)); replace HB := am hb; replace HI0 := am hi; (try clear ho0 hi hb hk)) | ((with_reducible refine gC 94 rfl ?_); refine gL (some 37) Try.func94 #[.pointer (some ⟨g, 0, none⟩), .string (⟨#[41]⟩ : ByteArray)] ?_; (with_reducible refine (parse_parser_mark.calls _ _ _ _ _ _ _ _ _ w0 _ ?side1 ?side2 A29.out).mono ?_); (case side1 => exact yI); (case side2 => exact (kLI HB)); rintro e w37 ⟨rfl, hi, hb, hk⟩; refine ⟨_, rfl, ?_⟩; replace BK208 := am (KeepBut.blk hk (kB BK208) NB208_0.out (by simp)); replace HO223 := am (Kd.N_mono (Kd.N_keep (Kd.N_mono (ok := fun k_ => (((w.heap.size ≤ k_)) ∧ (k_ ≠ gb208 ∧ k_ ≠ g))) (nB HO223) (fun k_ hk_ => (⟨hk_, hk_.2.2⟩ : _ ∧ k_ ≠ g))) hk (fun _ h => h.2)) (fun _ h => h.1)); replace HK := am (KeepBut.trans (kK HK) hk (.inl rfl)); replace HB := am hb; replace HI0 := am hi; (try clear hi hb hk)))
    go_ret
    exact ⟨_, yE, Kd.N_mono (nB HO223) (fun _ hk => hk.1), yI, (kLI HB), (kK HK)⟩
def parse_parser_term.l0 (EXF : EX_F) : Nat → List (S25) → List (S71) → Int → Int → Bool → Option ((List (S25)) × Int × Int × Bool)
 | 0, _, _, _, _, _ => none
 | k + 1, x3, x1000, x1001, x1002, x1003 => (parse_parser_is.f x1000 x1001 x1002 x1003 0 (⟨#[91]⟩ : ByteArray)).bind fun bt236 => (if bt236.1 = true then ((EXF x1000 (wrap64 (bt236.2.1 + 1)) bt236.2.2.1 bt236.2.2.2).bind fun bt240 => ((parse_parser_mark.f x1000 bt240.2.1 bt240.2.2.1 bt240.2.2.2 (⟨#[93]⟩ : ByteArray)).bind fun bt246 => ((tree_Node.f k 8 (⟨#[]⟩ : ByteArray) (⟨#[]⟩ : ByteArray) (⟨#[]⟩ : ByteArray) ([] : List ByteArray) (([x3, bt240.1] : List (List (S25))))).bind fun t252 => (parse_parser_term.l0 EXF k t252 x1000 bt246.1 bt246.2.1 bt246.2.2)))) else (some (x3, bt236.2.1, bt236.2.2.1, bt236.2.2.2)))
def parse_parser_term.f (EXF : EX_F) (k : Nat) (s0_0 : List (S71)) (s0_1 : Int) (s0_2 : Int) (s0_3 : Bool) : Option ((List (S25)) × Int × Int × Bool) := (parse_parser_atom.f EXF k s0_0 s0_1 s0_2 s0_3).bind fun bt230 => (parse_parser_term.l0 EXF k bt230.1 s0_0 bt230.2.1 bt230.2.2.1 bt230.2.2.2)
theorem parse_parser_term.mono_l (EXF : EX_F) : ∀ k, (∀ y0 y1 y2 y3 y4, LeO (parse_parser_term.l0 EXF k y0 y1 y2 y3 y4) (parse_parser_term.l0 EXF (k + 1) y0 y1 y2 y3 y4))
 | 0 => fun _ _ _ _ _ r h => by simp [parse_parser_term.l0] at h
 | k + 1 => by
  have ih0 := parse_parser_term.mono_l EXF k
  ·intro y0 y1 y2 y3 y4
   unfold parse_parser_term.l0
   with_reducible repeat' first
   | exact ih0 _ _ _ _ _
   | exact parse_parser_atom.mono EXF _ _ _ _ _
   | exact tree_Node.mono _ _ _ _ _ _ _
   | exact LeO.refl _
   | exact LeO.none _
   | refine LeO.ite ?_ ?_
   | refine LeO.bind ?_ (fun _ => ?_)
theorem parse_parser_term.mono (EXF : EX_F) : ∀ a0 a1 a2 a3 k, LeO (parse_parser_term.f EXF k a0 a1 a2 a3) (parse_parser_term.f EXF (k + 1) a0 a1 a2 a3) := by
 intro a0 a1 a2 a3 k
 have ih0 := parse_parser_term.mono_l EXF k
 unfold parse_parser_term.f
 with_reducible repeat' first
   | exact ih0 _ _ _ _ _
   | exact parse_parser_atom.mono EXF _ _ _ _ _
   | exact tree_Node.mono _ _ _ _ _ _ _
   | exact LeO.refl _
   | exact LeO.none _
   | refine LeO.ite ?_ ?_
   | refine LeO.bind ?_ (fun _ => ?_)
set_option maxHeartbeats 8000000 in
set_option maxRecDepth 100000 in
theorem parse_parser_term.calls (EXF : EX_F) (EXC : EX_C EXF) (k : Nat) (g : Nat) (s0_0 : List (S71)) (s0_1 : Int) (s0_2 : Int) (s0_3 : Bool) (r1 : List (S25)) (r2 : Int) (r3 : Int) (r4 : Bool) (w0 w : World) (hI : IsS83 w0 w g s0_0 s0_1 s0_2 s0_3) (hB : Below w0.heap.size w0 w) (h : parse_parser_term.f EXF k s0_0 s0_1 s0_2 s0_3 = some (r1, r2, r3, r4)) :
  Calls Try.prog 112 #[.pointer (some ⟨g, 0, none⟩)] w fun e w' => ∃ v0_ : Value, e = .returned (v0_) ∧ Kd.N k25 25 w' w.heap.size (fun k_ => (w.heap.size ≤ k_)) v0_ r1 ∧ IsS83 w0 w' g s0_0 r2 r3 r4 ∧ Below w0.heap.size w0 w' ∧ KeepBut w w' g none := by
 have hu25 := Try.underlying25
 have HI0 := am hI
 have HK := am (KeepBut.refl w g none)
 have HL := am hB.size
 clear hI
 have HW0 := am hB.size
 have HB := am hB
 clear hB
 unfold parse_parser_term.f at h
 have H := h
 clear h
 obtain ⟨⟨t230, t233, t234, t235⟩, A2, H⟩ := bO H
 try dsimp only at H
 have H' := am H
 clear H
 go_enter Try.func112, Try.ntmps112
 go_wp2_with ((with_reducible refine gC 123 rfl ?_); refine gL (some 6) Try.func123 #[.pointer (some ⟨g, 0, none⟩)] ?_; (with_reducible refine (parse_parser_atom.calls EXF EXC _ _ _ _ _ _ _ _ _ _ w0 _ ?side1 ?side2 A2.out).mono ?_); (case side1 => exact yI); (case side2 => exact (kLI HB)); rintro e w3 ⟨v231, rfl, ho0, hi, hb, hk⟩; refine ⟨_, rfl, ?_⟩; have HO232 := am (Kd.N_lower (Kd.N_mono (ok' := fun k_ => (w.heap.size ≤ k_) ∧ k_ ≠ g) ho0 (fun k_ hk_ => ⟨(Nat.le_trans (keep_size (w := w) (g := g) (row := none) (kK HK)) hk_), (IsS83.fresh yI k_ hk_)⟩)) (keep_size (w := w) (g := g) (row := none) (kK HK))); replace HK := am (KeepBut.trans (kK HK) hk (.inl rfl)); replace HB := am hb; replace HI0 := am hi; (try clear ho0 hi hb hk))
 go_loopg [3] k (fun kq v3 w' => ∃ (x3_1 : List (S25)) (x1001_1 : Int) (x1002_1 : Int) (x1003_1 : Bool), Aside0 (parse_parser_term.l0 EXF kq x3_1 s0_0 x1001_1 x1002_1 x1003_1 = some (r1, r2, r3, r4)) ∧ Aside0 (kq ≤ k) ∧ Aside0 (Kd.N k25 25 w' w.heap.size (fun k_ => (w.heap.size ≤ k_) ∧ k_ ≠ g) v3 x3_1) ∧ Aside0 (IsS83 w0 w' g s0_0 x1001_1 x1002_1 x1003_1) ∧ Aside0 (KeepBut w w' g none) ∧ Aside0 (Below w0.heap.size w0 w'))
 case atStart => exact ⟨(t230), (t233), (t234), (t235), H', ⟨Nat.le_refl _⟩, ⟨nB HO232⟩, ⟨yI⟩, ⟨(kK HK)⟩, ⟨(kLI HB)⟩⟩
 case round =>
  clear H'
  try clear c1
  try clear p2
  obtain ⟨x3_1, x1001_1, x1002_1, x1003_1, HA, HK1, HO_3, HI0, HK, HB⟩ := hrel
  cases gk with
  | zero => exact absurd HA.out (by simp [parse_parser_term.l0])
  | succ k1 =>
   have H := HA.out
   clear HA
   simp only [parse_parser_term.l0] at H
   obtain ⟨⟨t236, t237, t238, t239⟩, A4, H⟩ := bO H
   try dsimp only at H
   by_cases c5 : t236 = true
   ·subst c5
    rw [if_pos rfl] at H
    obtain ⟨⟨t240, t243, t244, t245⟩, A6, H⟩ := bO H
    try dsimp only at H
    obtain ⟨⟨t246, t247, t248⟩, A7, H⟩ := bO H
    try dsimp only at H
    obtain ⟨y249, hy249⟩ : ∃ y_ : List (List (S25)), y_ = (([x3_1, t240] : List (List (S25)))) := ⟨_, rfl⟩
    replace H : ((tree_Node.f k1 8 (⟨#[]⟩ : ByteArray) (⟨#[]⟩ : ByteArray) (⟨#[]⟩ : ByteArray) ([] : List ByteArray) y249).bind fun t252 => (parse_parser_term.l0 EXF k1 t252 s0_0 t246 t247 t248)) = some (r1, r2, r3, r4) := by first | (rw [hy249]; with_reducible exact H) | (have H2_ := (Option.bind_some _ _).symm.trans H; rw [hy249]; with_reducible exact H2_) | (have H2_ := (Option.bind_some _ _).symm.trans H; with_reducible exact H2_) | with_reducible exact H | (rw [hy249]; exact H) | exact H
    have Ny249 := am hy249
    clear hy249
    obtain ⟨t252, A8, H⟩ := bO H
    try dsimp only at H
    have H' := am H
    clear H
    go_wp2_with (first | ((with_reducible refine gC 92 rfl ?_); refine gL (some 8) Try.func92 #[.pointer (some ⟨g, 0, none⟩), .int .i64 0, .string (⟨#[91]⟩ : ByteArray)] ?_; (with_reducible refine (parse_parser_is.calls _ _ _ _ _ _ _ _ _ _ _ w0 _ ?side1 ?side2 A4.out).mono ?_); (case side1 => exact yI); (case side2 => exact (kLI HB)); rintro e w9 ⟨rfl, hi, hb, hk⟩; refine ⟨_, rfl, ?_⟩; replace HO_3 := am (Kd.N_mono (Kd.N_keep (Kd.N_mono (ok := fun k_ => (((w.heap.size ≤ k_)) ∧ k_ ≠ g)) (nB HO_3) (fun k_ hk_ => (⟨hk_, hk_.2⟩ : _ ∧ k_ ≠ g))) hk (fun _ h => h.2)) (fun _ h => h.1)); replace HK := am (KeepBut.trans (kK HK) hk (.inl rfl)); replace HB := am hb; replace HI0 := am hi; (try clear hi hb hk); obtain ⟨ASz10_0, cSz10_0, HSz10_0, hcz10_0, hcz10_1, hcz10_2, hcz10_3, hfz10_1, hfz10_2, hfz10_3⟩ := IsS83.look HI0.out) | ((with_reducible refine gC 93 rfl ?_); refine gL (some 17) Try.func93 #[.pointer (some ⟨g, 0, none⟩)] ?_; (with_reducible refine (EXC.out _ _ _ _ _ _ _ _ _ w0 _ ?side1 ?side2 A6.out).mono ?_); (case side1 => exact yI); (case side2 => exact (kLI HB)); rintro e w11 ⟨v241, rfl, ho0, hi, hb, hk⟩; refine ⟨_, rfl, ?_⟩; have HO242 := am (Kd.N_lower (Kd.N_mono (ok' := fun k_ => (w.heap.size ≤ k_) ∧ some k_ ≠ (u3 : Value).ownBlock ∧ k_ ≠ g) ho0 (fun k_ hk_ => ⟨(Nat.le_trans (keep_size (w := w) (g := g) (row := none) (kK HK)) hk_), (Kd.fresh' (Kd.N_lt (by (with_reducible repeat (first | apply Kd.N_alloc | apply Kd.N_drewN | apply Kd.N_drew)); exact (Kd.N_mono (Kd.N_far (p := ⟨g, 1, none⟩) (Kd.N_mono HO_3.out (fun k_ hk => (⟨hk, hk.2⟩ : _ ∧ k_ ≠ g))) (fun _ hk => hk.2) (.int .i64 (wrap64 (t237 + 1)))) (fun _ h_ => h_.1)))) k_ hk_), (IsS83.fresh yI k_ hk_)⟩)) (keep_size (w := w) (g := g) (row := none) (kK HK))); replace HO_3 := am (Kd.N_mono (Kd.N_told (Kd.N_oldK (Kd.N_mono (ok := fun k_ => (((w.heap.size ≤ k_)) ∧ k_ ≠ g)) (by (with_reducible repeat (first | apply Kd.N_alloc | apply Kd.N_drewN | apply Kd.N_drew)); exact (Kd.N_mono (Kd.N_far (p := ⟨g, 1, none⟩) (Kd.N_mono HO_3.out (fun k_ hk => (⟨hk, hk.2⟩ : _ ∧ k_ ≠ g))) (fun _ hk => hk.2) (.int .i64 (wrap64 (t237 + 1)))) (fun _ h_ => h_.1))) (fun k_ hk_ => (⟨hk_, hk_.2⟩ : _ ∧ k_ ≠ g))) hk) (Kd.N_base ho0)) (fun _ h_ => h_.1)); replace HK := am (KeepBut.trans (kK HK) hk (.inl rfl)); replace HB := am hb; replace HI0 := am hi; (try clear ho0 hi hb hk)) | ((with_reducible refine gC 94 rfl ?_); refine gL (some 19) Try.func94 #[.pointer (some ⟨g, 0, none⟩), .string (⟨#[93]⟩ : ByteArray)] ?_; (with_reducible refine (parse_parser_mark.calls _ _ _ _ _ _ _ _ _ w0 _ ?side1 ?side2 A7.out).mono ?_); (case side1 => exact yI); (case side2 => exact (kLI HB)); rintro e w12 ⟨rfl, hi, hb, hk⟩; refine ⟨_, rfl, ?_⟩; replace HO_3 := am (Kd.N_mono (Kd.N_keep (Kd.N_mono (ok := fun k_ => ((((w.heap.size ≤ k_)) ∧ k_ ≠ g) ∧ some k_ ≠ (v241 : Value).ownBlock)) (nB HO_3) (fun k_ hk_ => (⟨hk_, hk_.1.2⟩ : _ ∧ k_ ≠ g))) hk (fun _ h => h.2)) (fun _ h => h.1)); replace HO242 := am (Kd.N_mono (Kd.N_keep (Kd.N_mono (ok := fun k_ => (((w.heap.size ≤ k_)) ∧ (some k_ ≠ (u3 : Value).ownBlock ∧ k_ ≠ g))) (nB HO242) (fun k_ hk_ => (⟨hk_, hk_.2.2⟩ : _ ∧ k_ ≠ g))) hk (fun _ h => h.2)) (fun _ h => h.1)); replace HK := am (KeepBut.trans (kK HK) hk (.inl rfl)); replace HB := am hb; replace HI0 := am hi; (try clear hi hb hk); obtain ⟨Ao13, co13, eo13⟩ := Kd.N_slice HO_3.out; subst eo13; obtain ⟨Ao14, co14, eo14⟩ := Kd.N_slice HO242.out; subst eo14) | ((with_reducible refine gD 23 rfl ?_); refine Kd.N_lit (Kd.slice 25 k25) _ 22 ?hg (N' := 23) ?hd (xs := ([x3_1, t240] : List (List (S25)))) (inner := [.slice Ao13 x3_1.length co13, .slice Ao14 t240.length co14]) (ok := (fun k_ => (w.heap.size ≤ k_) ∧ k_ ≠ g)) (okp := (fun k_ => (w.heap.size ≤ k_) ∧ k_ ≠ g)) ?hr ?hp (fun _ hk => hk) ((show ∀ k_, w12.heap.size ≤ k_ → (fun k_ => (w.heap.size ≤ k_) ∧ k_ ≠ g) k_ from fun k_ hk => ⟨(Nat.le_trans (keep_size (w := w) (g := g) (row := none) (kK HK)) hk), IsS83.fresh yI k_ hk⟩) _ (Nat.le_refl _)) (Below.refl _ _) (Nat.le_refl _) (by simp) ?_; (case hd => rfl); (case hg => rfl); (case hr => first | (go_simp; done) | (go_simp; rfl)); (case hp => exact (Reps.one (show Kd.FK (Kd.slice 25 k25) _ _ x3_1 [.slice Ao13 x3_1.length co13] from (Kd.FK_slice_mk (Kd.N_reads' (Kd.N_mono (ok' := (fun k_ => (w.heap.size ≤ k_) ∧ k_ ≠ g)) (HO_3.out) (fun k_ hk => ⟨hk.1.1, hk.1.2⟩))).2.1 (Kd.N_F (Kd.N_mono (ok' := (fun k_ => (w.heap.size ≤ k_) ∧ k_ ≠ g)) (HO_3.out) (fun k_ hk => ⟨hk.1.1, hk.1.2⟩))))) (Reps.one (show Kd.FK (Kd.slice 25 k25) _ _ t240 [.slice Ao14 t240.length co14] from (Kd.FK_slice_mk (Kd.N_reads' (Kd.N_mono (ok' := (fun k_ => (w.heap.size ≤ k_) ∧ k_ ≠ g)) (HO242.out) (fun k_ hk => ⟨hk.1, hk.2.2⟩))).2.1 (Kd.N_F (Kd.N_mono (ok' := (fun k_ => (w.heap.size ≤ k_) ∧ k_ ≠ g)) (HO242.out) (fun k_ hk => ⟨hk.1, hk.2.2⟩))))) (Reps.none _ _)))); intro v250 w15 ho16 hb hg_ hnew_; clear hg_ hnew_; (first | rw [← Ny249.out] at ho16 | (simp only [Int.reduceToNat] at ho16; rw [← Ny249.out] at ho16)); have n0_ := am (Kd.N_lower ho16 (keep_size (w := w) (g := g) (row := none) (kK HK))); have n1_ := am (IsS83.below yI hb); have n2_ := am (KeepBut.trans (kK HK) (KeepBut.of_below hb g none) (.inl rfl)); have n3_ := am (below_step (kLI HB) hb); clear HI0; clear HK; clear HB; clear HO242; clear HO_3; have HO251 := n0_; have HI0 := n1_; have HK := n2_; have HB := n3_; clear n0_ n1_ n2_ n3_; clear hb ho16; obtain ⟨Ao17, co17, eo17⟩ := Kd.N_slice HO251.out; subst eo17) | ((with_reducible refine gC 32 rfl ?_); refine gL (some 24) Try.func32 #[.agg #[.int .i64 8, .string (⟨#[]⟩ : ByteArray), .string (⟨#[]⟩ : ByteArray), .string (⟨#[]⟩ : ByteArray), .slice none 0 0], .slice Ao17 y249.length co17] ?_; (refine (tree_Node.calls _ _ _ _ _ (fun k_ => False) _ _ _ (fun k_ => ((w.heap.size ≤ k_) ∧ k_ ≠ g)) _ _ _ _ _ ?side1 ?side2 A8.out).mono ?_); (case side1 => exact Kd.V_nil _ _ _ _ _); (case side2 => exact Kd.N_V (HO251.out)); rintro e w18 ⟨v253, rfl, ho0, hb⟩; refine ⟨_, rfl, ?_⟩; replace HO251 := am (Kd.N_elder' (nB HO251) (Kd.N_base ho0) hb); have HO254 := am (Kd.N_lower (Kd.N_mono (ok' := fun k_ => (w.heap.size ≤ k_) ∧ k_ ≠ g) ho0 (fun k_ hk_ => ⟨Or.elim hk_ (fun hs_ => Or.elim hs_ (fun hs_ => (hs_).elim) (fun hs_ => hs_.1)) (fun hn_ => (Nat.le_trans (keep_size (w := w) (g := g) (row := none) (kK HK)) hn_)), Or.elim hk_ (fun hs_ => Or.elim hs_ (fun hs_ => (hs_).elim) (fun hs_ => hs_.2)) (fun hn_ => (IsS83.fresh yI k_ hn_))⟩)) (keep_size (w := w) (g := g) (row := none) (kK HK))); replace HK := am (KeepBut.trans (kK HK) (KeepBut.of_below hb g none) (.inl rfl)); replace HB := am (below_step (kLI HB) hb); replace HI0 := am (IsS83.below yI hb); (try clear ho0 hb)))
    go_roundg k1
    case measure => have := HK1.out; omega
    case rel => exact ⟨(t252), (t246), (t247), (t248), H', ⟨by have := HK1.out; omega⟩, ⟨nB HO254⟩, ⟨yI⟩, ⟨(kK HK)⟩, ⟨(kLI HB)⟩⟩
   ·replace c5 := Bool.eq_false_iff.mpr c5
    subst c5
    rw [if_neg (show ¬ (false = true) by decide)] at H
    simp only [Option.some.injEq, Prod.mk.injEq] at H
    obtain ⟨rfl, rfl, rfl, rfl⟩ := H
    go_wp2_with ((with_reducible refine gC 92 rfl ?_); refine gL (some 8) Try.func92 #[.pointer (some ⟨g, 0, none⟩), .int .i64 0, .string (⟨#[91]⟩ : ByteArray)] ?_; (with_reducible refine (parse_parser_is.calls _ _ _ _ _ _ _ _ _ _ _ w0 _ ?side1 ?side2 A4.out).mono ?_); (case side1 => exact yI); (case side2 => exact (kLI HB)); rintro e w19 ⟨rfl, hi, hb, hk⟩; refine ⟨_, rfl, ?_⟩; replace HO_3 := am (Kd.N_mono (Kd.N_keep (Kd.N_mono (ok := fun k_ => (((w.heap.size ≤ k_)) ∧ k_ ≠ g)) (nB HO_3) (fun k_ hk_ => (⟨hk_, hk_.2⟩ : _ ∧ k_ ≠ g))) hk (fun _ h => h.2)) (fun _ h => h.1)); replace HK := am (KeepBut.trans (kK HK) hk (.inl rfl)); replace HB := am hb; replace HI0 := am hi; (try clear hi hb hk))
    go_ret
    exact ⟨_, yE, Kd.N_mono (nB HO_3) (fun _ hk => hk.1), yI, (kLI HB), (kK HK)⟩
end Go.Proofs.Ytdelccahgchadaa.P
end
section
namespace Go.Proofs.Ytdelccahgchadaa.P
open Go.RowKit Go.Proofs.YtdelccahgchadaaW.PrintWords Go.Proofs.YtdelccahgchadaaW.PrintLast Go.Proofs.YtdelccahgchadaaW.PrintMore
attribute [local go_sem] max2_int min2_int max_two min_two max_three min_three max_four min_four   
set_option linter.unusedVariables false
set_option linter.unusedSimpArgs false
def parse_parser_exprB.f (EXF : EX_F) (k : Nat) (s0_0 : List (S71)) (s0_1 : Int) (s0_2 : Int) (s0_3 : Bool) : Option ((List (S25)) × Int × Int × Bool) := (parse_parser_verbs.f s0_0 s0_1 s0_2 s0_3).bind fun bt255 => (if bt255.1 = true then ((parse_parser_verb.f EXF k s0_0 bt255.2.1 bt255.2.2.1 bt255.2.2.2 3 (⟨#[39, 47, 92, 96]⟩ : ByteArray)).bind fun bt259 => ((EXF s0_0 bt259.2.2.2.2.2.2.1 bt259.2.2.2.2.2.2.2.1 bt259.2.2.2.2.2.2.2.2).bind fun bt273 => ((tree_Node.f k bt259.1 bt259.2.1 bt259.2.2.1 bt259.2.2.2.1 bt259.2.2.2.2.1 (([bt259.2.2.2.2.2.1, bt273.1] : List (List (S25))))).bind fun t282 => (some (t282, bt273.2.1, bt273.2.2.1, bt273.2.2.2))))) else ((parse_parser_term.f EXF k s0_0 bt255.2.1 bt255.2.2.1 bt255.2.2.2).bind fun bt285 => ((parse_parser_verbs.f s0_0 bt285.2.1 bt285.2.2.1 bt285.2.2.2).bind fun bt291 => (if bt291.1 = true then ((parse_parser_verb.f EXF k s0_0 bt291.2.1 bt291.2.2.1 bt291.2.2.2 4 (⟨#[39, 46]⟩ : ByteArray)).bind fun bt295 => ((EXF s0_0 bt295.2.2.2.2.2.2.1 bt295.2.2.2.2.2.2.2.1 bt295.2.2.2.2.2.2.2.2).bind fun bt309 => ((tree_Node.f k bt295.1 bt295.2.1 bt295.2.2.1 bt295.2.2.2.1 bt295.2.2.2.2.1 (([bt295.2.2.2.2.2.1, bt285.1, bt309.1] : List (List (S25))))).bind fun t318 => (some (t318, bt309.2.1, bt309.2.2.1, bt309.2.2.2))))) else (some (bt285.1, bt291.2.1, bt291.2.2.1, bt291.2.2.2))))))
theorem parse_parser_exprB.mono (EXF : EX_F) : ∀ a0 a1 a2 a3 k, LeO (parse_parser_exprB.f EXF k a0 a1 a2 a3) (parse_parser_exprB.f EXF (k + 1) a0 a1 a2 a3) := by
 intro a0 a1 a2 a3 k
 unfold parse_parser_exprB.f
 with_reducible repeat' first
   | exact parse_parser_term.mono EXF _ _ _ _ _
   | exact parse_parser_verb.mono EXF _ _ _ _ _ _ _
   | exact tree_Node.mono _ _ _ _ _ _ _
   | exact LeO.refl _
   | exact LeO.none _
   | refine LeO.ite ?_ ?_
   | refine LeO.bind ?_ (fun _ => ?_)
def parse_parser_exprB.T8 : Bool × List (List Nat × List Nat) := (true, [([], []), ([], []), ([], []), ([], []), ([3], [3]), ([1, 2, 4], [1, 2, 4]), ([0, 5, 4], [0, 5]), ([6, 6, 0, 1, 2, 3, 4, 5, 6], [6])])
def parse_parser_exprB.B8 : List Nat := [0, 0, 0, 0, 8, 30, 63, 127]
theorem parse_parser_exprB.tab8 : rtab .any (opsOf Try.f93 8) = parse_parser_exprB.T8 := by kernel_rfl
theorem parse_parser_exprB.bits8 : waitsOk parse_parser_exprB.T8.2 parse_parser_exprB.B8 = true := by kernel_rfl
set_option maxHeartbeats 8000000 in
set_option maxRecDepth 100000 in
theorem parse_parser_exprB.calls (EXF : EX_F) (EXC : EX_C EXF) (k : Nat) (g : Nat) (s0_0 : List (S71)) (s0_1 : Int) (s0_2 : Int) (s0_3 : Bool) (r1 : List (S25)) (r2 : Int) (r3 : Int) (r4 : Bool) (w0 w : World) (hI : IsS83 w0 w g s0_0 s0_1 s0_2 s0_3) (hB : Below w0.heap.size w0 w) (h : parse_parser_exprB.f EXF k s0_0 s0_1 s0_2 s0_3 = some (r1, r2, r3, r4)) :
  Calls Try.prog 93 #[.pointer (some ⟨g, 0, none⟩)] w fun e w' => ∃ v0_ : Value, e = .returned (v0_) ∧ Kd.N k25 25 w' w.heap.size (fun k_ => (w.heap.size ≤ k_)) v0_ r1 ∧ IsS83 w0 w' g s0_0 r2 r3 r4 ∧ Below w0.heap.size w0 w' ∧ KeepBut w w' g none := by
 have hu25 := Try.underlying25
 have HI0 := am hI
 have HK := am (KeepBut.refl w g none)
 have HL := am hB.size
 clear hI
 have HW0 := am hB.size
 have HB := am hB
 clear hB
 unfold parse_parser_exprB.f at h
 have H := h
 clear h
 obtain ⟨⟨t255, t256, t257, t258⟩, A2, H⟩ := bO H
 try dsimp only at H
 by_cases c3 : t255 = true
 ·subst c3
  rw [if_pos rfl] at H
  obtain ⟨⟨t259, t260, t261, t262, t263, t266, t269, t270, t271⟩, A4, H⟩ := bO H
  try dsimp only at H
  obtain ⟨⟨t273, t276, t277, t278⟩, A5, H⟩ := bO H
  try dsimp only at H
  obtain ⟨y279, hy279⟩ : ∃ y_ : List (List (S25)), y_ = (([t266, t273] : List (List (S25)))) := ⟨_, rfl⟩
  replace H : ((tree_Node.f k t259 t260 t261 t262 t263 y279).bind fun t282 => (some (t282, t276, t277, t278))) = some (r1, r2, r3, r4) := by first | (rw [hy279]; with_reducible exact H) | (have H2_ := (Option.bind_some _ _).symm.trans H; rw [hy279]; with_reducible exact H2_) | (have H2_ := (Option.bind_some _ _).symm.trans H; with_reducible exact H2_) | with_reducible exact H | (rw [hy279]; exact H) | exact H
  have Ny279 := am hy279
  clear hy279
  obtain ⟨t282, A6, H⟩ := bO H
  try dsimp only at H
  simp only [Option.some.injEq, Prod.mk.injEq] at H
  obtain ⟨rfl, rfl, rfl, rfl⟩ := H
  go_enter Try.func93, Try.ntmps93
  try go_wp2_with (first | ((with_reducible refine gC 110 rfl ?_); refine gL (some 9) Try.func110 #[.pointer (some ⟨g, 0, none⟩)] ?_; (with_reducible refine (parse_parser_verbs.calls _ _ _ _ _ _ _ _ _ w0 _ ?side1 ?side2 A2.out).mono ?_); (case side1 => exact yI); (case side2 => exact (kLI HB)); rintro e w7 ⟨rfl, hi, hb, hk⟩; refine ⟨_, rfl, ?_⟩; replace HK := am (KeepBut.trans (kK HK) hk (.inl rfl)); replace HB := am hb; replace HI0 := am hi; (try clear hi hb hk)) | ((with_reducible refine gC 111 rfl ?_); refine gL (some 12) Try.func111 #[.pointer (some ⟨g, 0, none⟩), .int .i64 3, .string (⟨#[39, 47, 92, 96]⟩ : ByteArray)] ?_; (with_reducible refine (parse_parser_verb.calls EXF EXC _ _ _ _ _ _ _ _ _ _ _ _ _ _ _ _ _ w0 _ ?side1 ?side2 A4.out).mono ?_); (case side1 => exact yI); (case side2 => exact (kLI HB)); rintro e w8 ⟨v264, v267, rfl, ho0, ho1, hi, hb, hk⟩; refine ⟨_, rfl, ?_⟩; have HO265 := am (Kd.R_lower (Kd.R_newM (M := fun k_ => (w.heap.size ≤ k_)) (Kd.R_mono (ok' := fun k_ => True) ho0 (fun _ hk_ => trivial)) (keep_size (w := w) (g := g) (row := none) (kK HK)) (fun k_ h_ => h_)) (keep_size (w := w) (g := g) (row := none) (kK HK))); have HO268 := am (Kd.N_lower (Kd.N_mono (ok' := fun k_ => (w.heap.size ≤ k_) ∧ some k_ ≠ (v264 : Value).ownBlock ∧ k_ ≠ g) ho1 (fun k_ hk_ => ⟨(Nat.le_trans (keep_size (w := w) (g := g) (row := none) (kK HK)) hk_.1), hk_.2, (IsS83.fresh yI k_ hk_.1)⟩)) (keep_size (w := w) (g := g) (row := none) (kK HK))); replace HK := am (KeepBut.trans (kK HK) hk (.inl rfl)); replace HB := am hb; replace HI0 := am hi; (try clear ho0 ho1 hi hb hk)) | ((with_reducible refine gD 3 rfl ?_); refine bx 3 #[.int .i64 0, .string (⟨#[]⟩ : ByteArray), .string (⟨#[]⟩ : ByteArray), .string (⟨#[]⟩ : ByteArray), .slice none 0 0] 25 ?_; intro gb272 hg w9 hbox hb; replace HO265 := am (Kd.R_below (rB HO265) hb); replace HO268 := am (Kd.N_below (Kd.N_elderB (nB HO268) gb272 (Nat.le_of_eq hg.symm)) hb); replace HB := am (below_step (kLI HB) hb); have BK272 := am hbox; have GW272 := am ((by rw [hg]; exact (keep_size (w := w) (g := g) (row := none) (kK HK)) : w.heap.size ≤ gb272)); have GE272 := am ((Nat.le_trans HW0.out (by rw [hg]; exact (keep_size (w := w) (g := g) (row := none) (kK HK)) : w.heap.size ≤ gb272) : w0.heap.size ≤ gb272)); replace HK := am (KeepBut.trans (kK HK) (KeepBut.of_below hb g none) (.inl rfl)); have NB0_272 := am ((by rw [hg]; exact Nat.ne_of_lt (IsS83.lt (show IsS83 w0 _ g s0_0 t269 t270 t271 from yI)) : g ≠ gb272)); have NB272_0 := am ((by rw [hg]; exact Nat.ne_of_gt (IsS83.lt (show IsS83 w0 _ g s0_0 t269 t270 t271 from yI)) : gb272 ≠ g)); replace HI0 := am (IsS83.below yI hb); clear hb hbox hg; have hnb10 := NB272_0.out; have hnc10 := NB0_272.out; obtain ⟨hcz11_0, hcz11_1, hcz11_2, hcz11_3, hcz11_4, hfz11_0, hfz11_1, hfz11_2, hfz11_3, hfz11_4⟩ := bk5 BK272.out; obtain ⟨Ao12, co12, eo12⟩ := Kd.R_slice HO265.out; subst eo12))
  have n0_ : Aside0 (Kd.R Kd.string 9 (((((w9.setCell ⟨gb272, 0, none⟩ (.int .i64 t259)).setCell ⟨gb272, 1, none⟩ (.string t260)).setCell ⟨gb272, 2, none⟩ (.string t261)).setCell ⟨gb272, 3, none⟩ (.string t262)).setCell ⟨gb272, 4, none⟩ (.slice Ao12 t263.length co12)) w.heap.size (fun k_ => (w.heap.size ≤ k_)) (.slice Ao12 t263.length co12) t263) := ⟨by (with_reducible repeat (first | apply Kd.R_alloc | apply Kd.R_drewN | apply Kd.R_drew)); exact Kd.R_mono (Kd.R_far (p := ⟨gb272, 4, none⟩) (Kd.R_far (p := ⟨gb272, 3, none⟩) (Kd.R_far (p := ⟨gb272, 2, none⟩) (Kd.R_far (p := ⟨gb272, 1, none⟩) (Kd.R_far (p := ⟨gb272, 0, none⟩) (Kd.R_types HO265.out BK272.out (by decide)) (fun _ hk => hk.2) (.int .i64 t259)) (fun _ hk => hk.2) (.string t260)) (fun _ hk => hk.2) (.string t261)) (fun _ hk => hk.2) (.string t262)) (fun _ hk => hk.2) (.slice Ao12 t263.length co12)) (fun _ hk => hk.1.1)⟩
  have n1_ : Aside0 (Kd.N k25 25 (((((w9.setCell ⟨gb272, 0, none⟩ (.int .i64 t259)).setCell ⟨gb272, 1, none⟩ (.string t260)).setCell ⟨gb272, 2, none⟩ (.string t261)).setCell ⟨gb272, 3, none⟩ (.string t262)).setCell ⟨gb272, 4, none⟩ (.slice Ao12 t263.length co12)) w.heap.size (fun k_ => (w.heap.size ≤ k_) ∧ some k_ ≠ (.slice Ao12 t263.length co12 : Value).ownBlock ∧ k_ ≠ g ∧ k_ ≠ gb272) v267 t266) := ⟨by (with_reducible repeat (first | apply Kd.N_alloc | apply Kd.N_drewN | apply Kd.N_drew)); exact Kd.N_mono (Kd.N_far (p := ⟨gb272, 4, none⟩) (Kd.N_far (p := ⟨gb272, 3, none⟩) (Kd.N_far (p := ⟨gb272, 2, none⟩) (Kd.N_far (p := ⟨gb272, 1, none⟩) (Kd.N_far (p := ⟨gb272, 0, none⟩) (Kd.N_mono HO268.out (fun k_ hk => (⟨hk, hk.2⟩ : _ ∧ k_ ≠ gb272))) (fun _ hk => hk.2) (.int .i64 t259)) (fun _ hk => hk.2) (.string t260)) (fun _ hk => hk.2) (.string t261)) (fun _ hk => hk.2) (.string t262)) (fun _ hk => hk.2) (.slice Ao12 t263.length co12)) (fun _ hk => ⟨hk.1.1.1, ⟨hk.1.1.2.1, ⟨hk.1.1.2.2, hk.1.2⟩⟩⟩)⟩
  have n2_ : Aside0 ((((((w9.setCell ⟨gb272, 0, none⟩ (.int .i64 t259)).setCell ⟨gb272, 1, none⟩ (.string t260)).setCell ⟨gb272, 2, none⟩ (.string t261)).setCell ⟨gb272, 3, none⟩ (.string t262)).setCell ⟨gb272, 4, none⟩ (.slice Ao12 t263.length co12)).heap[gb272]? = some (.cells #[.int .i64 t259, .string t260, .string t261, .string t262, .slice Ao12 t263.length co12] 25 (0, 0))) := ⟨kM BK272⟩
  have n3_ : Aside0 (IsS83 w0 (((((w9.setCell ⟨gb272, 0, none⟩ (.int .i64 t259)).setCell ⟨gb272, 1, none⟩ (.string t260)).setCell ⟨gb272, 2, none⟩ (.string t261)).setCell ⟨gb272, 3, none⟩ (.string t262)).setCell ⟨gb272, 4, none⟩ (.slice Ao12 t263.length co12)) g s0_0 t269 t270 t271) := ⟨yI⟩
  have n4_ : Aside0 (KeepBut w (((((w9.setCell ⟨gb272, 0, none⟩ (.int .i64 t259)).setCell ⟨gb272, 1, none⟩ (.string t260)).setCell ⟨gb272, 2, none⟩ (.string t261)).setCell ⟨gb272, 3, none⟩ (.string t262)).setCell ⟨gb272, 4, none⟩ (.slice Ao12 t263.length co12)) g none) := ⟨(kK HK)⟩
  have n5_ : Aside0 (Below w0.heap.size w0 (((((w9.setCell ⟨gb272, 0, none⟩ (.int .i64 t259)).setCell ⟨gb272, 1, none⟩ (.string t260)).setCell ⟨gb272, 2, none⟩ (.string t261)).setCell ⟨gb272, 3, none⟩ (.string t262)).setCell ⟨gb272, 4, none⟩ (.slice Ao12 t263.length co12))) := ⟨(kLI HB)⟩
  (try clear HO265)
  (try clear HO268)
  (try clear BK272)
  (try clear HI0)
  (try clear HK)
  (try clear HB)
  generalize (((((w9.setCell ⟨gb272, 0, none⟩ (.int .i64 t259)).setCell ⟨gb272, 1, none⟩ (.string t260)).setCell ⟨gb272, 2, none⟩ (.string t261)).setCell ⟨gb272, 3, none⟩ (.string t262)).setCell ⟨gb272, 4, none⟩ (.slice Ao12 t263.length co12)) = w13 at n0_ n1_ n2_ n3_ n4_ n5_ ⊢
  have HO265 := n0_
  have HO268 := n1_
  have BK272 := n2_
  have HI0 := n3_
  have HK := n4_
  have HB := n5_
  clear n0_ n1_ n2_ n3_ n4_ n5_
  replace HO265 := am (Kd.R_drew HO265.out)
  replace HO268 := am (Kd.N_drew HO268.out)
  replace BK272 := am (bD BK272.out)
  replace HI0 := am (IsS83.drew HI0.out)
  replace HK := am (keep_drew HK.out)
  replace HB := am (lD HB.out)
  refine start_ (n := 7) (S := fun w' => w'.cell? ⟨gb272, 0, none⟩ = some (.int .i64 t259) ∧ w'.cell? ⟨gb272, 1, none⟩ = some (.string t260) ∧ w'.cell? ⟨gb272, 2, none⟩ = some (.string t261) ∧ w'.cell? ⟨gb272, 3, none⟩ = some (.string t262) ∧ w'.cell? ⟨gb272, 4, none⟩ = some (.slice Ao12 t263.length co12)) (ds := []) #[false, false, false, false, false, false, false] (by kernel_rfl) rfl rfl ⟨(blk_cell BK272.out 0).trans rfl, (blk_cell BK272.out 1).trans rfl, (blk_cell BK272.out 2).trans rfl, (blk_cell BK272.out 3).trans rfl, (blk_cell BK272.out 4).trans rfl⟩ (fun hHeld => ?_)
  generalize w13.drew = w14 at HO265 HO268 BK272 HI0 HK HB hHeld ⊢
  refine pure_ (i := 1) (N := some 16) (v := ?_) (a' := ?_) #[false, true, false, false, false, false, false] rfl rfl (by kernel_rfl) (fun _ _ _ h => h) (Or.inl ⟨by rfl, ?_⟩) ?_ ?_
  rotate_left
  ·intro w'
   go_simp
   with_reducible rfl
  rotate_left
  ·simp only [Act.put, zT, z0, zS, i64_w, i32_w]
   rfl
  refine pure_ (i := 2) (N := some 17) (v := ?_) (a' := ?_) #[false, true, true, false, false, false, false] rfl rfl (by kernel_rfl) (fun _ _ _ h => h) (Or.inl ⟨by rfl, ?_⟩) ?_ ?_
  rotate_left
  ·intro w'
   go_simp
   with_reducible rfl
  rotate_left
  ·simp only [Act.put, zT, z0, zS, i64_w, i32_w]
   rfl
  refine take_ (i := 0) (N := some 15) (v := ?_) (a' := ?_) #[true, true, true, false, false, false, false] rfl rfl (by kernel_rfl) (fun _ _ _ h => h) (Or.inl ⟨by rfl, ?_⟩) hHeld ?_ ?_
  rotate_left
  ·rintro w' ⟨s0, s1, s2, s3, s4⟩
   go_simp
   with_reducible rfl
  rotate_left
  ·simp only [Act.put, zT, z0, zS, i64_w, i32_w]
   rfl
  refine one_ (i := 3) (N := some 18) #[true, true, true, true, false, false, false] rfl rfl (by kernel_rfl) (by decide) (fun K hK => ?_)
  refine goes_ Try.func93 (by kernel_rfl) rfl #[.pointer (some ⟨g, 0, none⟩)] (by rfl) rfl rfl yA ?_
  with_reducible refine (EXC.out _ _ _ _ _ _ _ _ _ w0 _ ?side1 ?side2 A5.out).mono ?_
  (case side1 => exact yI)
  (case side2 => exact (kLI HB))
  rintro e w15 ⟨v274, rfl, ho0, hi, hb, hk⟩
  refine ⟨_, rfl, ?_⟩
  have HO275 := am (Kd.N_lower (Kd.N_mono (ok' := fun k_ => (w.heap.size ≤ k_) ∧ some k_ ≠ (.slice Ao12 t263.length co12 : Value).ownBlock ∧ some k_ ≠ (v267 : Value).ownBlock ∧ k_ ≠ gb272 ∧ k_ ≠ g) ho0 (fun k_ hk_ => ⟨(Nat.le_trans (keep_size (w := w) (g := g) (row := none) (kK HK)) hk_), (Kd.fresh' (Kd.R_lt (rB HO265)) k_ hk_), (Kd.fresh' (Kd.N_lt (nB HO268)) k_ hk_), (fB BK272 k_ hk_), (IsS83.fresh yI k_ hk_)⟩)) (keep_size (w := w) (g := g) (row := none) (kK HK)))
  replace HO265 := am (Kd.R_mono (Kd.R_keep (IsS83.apart (show IsS83 w0 _ g s0_0 t269 t270 t271 from yI) (rB HO265) (by decide)) hk (fun _ h => h.2)) (fun _ h => h.1))
  replace HO268 := am (Kd.N_mono (Kd.N_told (Kd.N_oldK (Kd.N_mono (ok := fun k_ => (((w.heap.size ≤ k_)) ∧ (some k_ ≠ (.slice Ao12 t263.length co12 : Value).ownBlock ∧ (k_ ≠ g ∧ k_ ≠ gb272)))) (nB HO268) (fun k_ hk_ => (⟨hk_, hk_.2.2.1⟩ : _ ∧ k_ ≠ g))) hk) (Kd.N_base ho0)) (fun _ h_ => h_.1))
  replace BK272 := am (KeepBut.blk hk (kB BK272) NB272_0.out (by simp))
  replace HK := am (KeepBut.trans (kK HK) hk (.inl rfl))
  replace HB := am hb
  replace HI0 := am hi
  (try clear hb)
  (try clear hb2)
  (try clear hk)
  (try clear hi)
  (try clear ho0)
  obtain ⟨Ao16, co16, eo16⟩ := Kd.N_slice HO268.out
  (first | subst eo16 | (injection eo16 with f1_ f2_ f3_; have f4_ := f1_.symm; have f5_ := f3_.symm; clear f1_ f2_ f3_; subst f4_; subst f5_))
  obtain ⟨Ao17, co17, eo17⟩ := Kd.N_slice HO275.out
  (first | subst eo17 | (injection eo17 with f1_ f2_ f3_; have f4_ := f1_.symm; have f5_ := f3_.symm; clear f1_ f2_ f3_; subst f4_; subst f5_))
  refine hK.out _ _ ⟨(blk_cell BK272.out 0).trans rfl, (blk_cell BK272.out 1).trans rfl, (blk_cell BK272.out 2).trans rfl, (blk_cell BK272.out 3).trans rfl, (blk_cell BK272.out 4).trans rfl⟩ (fun hHeld => ?_)
  clear hK K
  refine norm_ (a' := ?_) ?_ ?_
  rotate_left
  ·show Act.put _ (some 18) _ = _
   simp only [Act.put, zT, z0, zS, i64_w, i32_w]
   rfl
  refine one_ (i := 4) (N := some 19) #[true, true, true, true, true, false, false] rfl rfl (by kernel_rfl) (by decide) (fun K hK => ?_)
  refine Kd.N_lit_step (Kd.slice 25 k25) _ 22 ?hg (N' := 19) ?hd (xs := ([t266, t273] : List (List (S25)))) (inner := [.slice Ao16 t266.length co16, .slice Ao17 t273.length co17]) (ok := (fun k_ => (w.heap.size ≤ k_) ∧ some k_ ≠ (.slice Ao12 t263.length co12 : Value).ownBlock ∧ k_ ≠ gb272 ∧ k_ ≠ g)) (okp := (fun k_ => (w.heap.size ≤ k_) ∧ some k_ ≠ (.slice Ao12 t263.length co12 : Value).ownBlock ∧ k_ ≠ gb272 ∧ k_ ≠ g)) ?hr ?hp (fun _ hk => hk) ((show ∀ k_, w15.heap.size ≤ k_ → (fun k_ => (w.heap.size ≤ k_) ∧ some k_ ≠ (.slice Ao12 t263.length co12 : Value).ownBlock ∧ k_ ≠ gb272 ∧ k_ ≠ g) k_ from fun k_ hk => ⟨(Nat.le_trans (keep_size (w := w) (g := g) (row := none) (kK HK)) hk), Kd.fresh' (Kd.R_lt (rB HO265)) k_ hk, Kd.freshB (g := gb272) (o := .cells #[.int .i64 t259, .string t260, .string t261, .string t262, .slice Ao12 t263.length co12] 25 (0, 0)) (kB BK272) k_ hk, IsS83.fresh yI k_ hk⟩) _ (Nat.le_refl _)) (Below.refl _ _) (Nat.le_refl _) (by simp) ?_; (case hd => rfl); (case hg => rfl); (case hr => first | (go_simp; done) | (go_simp; rfl)); (case hp => exact (Reps.one (show Kd.FK (Kd.slice 25 k25) _ _ t266 [.slice Ao16 t266.length co16] from (Kd.FK_slice_mk (Kd.N_reads' (Kd.N_mono (ok' := (fun k_ => (w.heap.size ≤ k_) ∧ some k_ ≠ (.slice Ao12 t263.length co12 : Value).ownBlock ∧ k_ ≠ gb272 ∧ k_ ≠ g)) (HO268.out) (fun k_ hk => ⟨hk.1.1, ⟨hk.1.2.1, ⟨hk.1.2.2.2, hk.1.2.2.1⟩⟩⟩))).2.1 (Kd.N_F (Kd.N_mono (ok' := (fun k_ => (w.heap.size ≤ k_) ∧ some k_ ≠ (.slice Ao12 t263.length co12 : Value).ownBlock ∧ k_ ≠ gb272 ∧ k_ ≠ g)) (HO268.out) (fun k_ hk => ⟨hk.1.1, ⟨hk.1.2.1, ⟨hk.1.2.2.2, hk.1.2.2.1⟩⟩⟩))))) (Reps.one (show Kd.FK (Kd.slice 25 k25) _ _ t273 [.slice Ao17 t273.length co17] from (Kd.FK_slice_mk (Kd.N_reads' (Kd.N_mono (ok' := (fun k_ => (w.heap.size ≤ k_) ∧ some k_ ≠ (.slice Ao12 t263.length co12 : Value).ownBlock ∧ k_ ≠ gb272 ∧ k_ ≠ g)) (HO275.out) (fun k_ hk => ⟨hk.1, ⟨hk.2.1, ⟨hk.2.2.2.1, hk.2.2.2.2⟩⟩⟩))).2.1 (Kd.N_F (Kd.N_mono (ok' := (fun k_ => (w.heap.size ≤ k_) ∧ some k_ ≠ (.slice Ao12 t263.length co12 : Value).ownBlock ∧ k_ ≠ gb272 ∧ k_ ≠ g)) (HO275.out) (fun k_ hk => ⟨hk.1, ⟨hk.2.1, ⟨hk.2.2.2.1, hk.2.2.2.2⟩⟩⟩))))) (Reps.none _ _))))
  intro v280 w18 ho19 hb hg_ hnew_
  clear hg_ hnew_
  (first | rw [← Ny279.out] at ho19 | (simp only [Int.reduceToNat] at ho19; rw [← Ny279.out] at ho19))
  have n0_ := am (Kd.R_below (rB HO265) hb)
  have n1_ := am (Kd.N_lower ho19 (keep_size (w := w) (g := g) (row := none) (kK HK)))
  have n2_ := am (IsS83.below yI hb)
  have n3_ := am (bB (kB BK272) hb)
  have n4_ := am (KeepBut.trans (kK HK) (KeepBut.of_below hb g none) (.inl rfl))
  have n5_ := am (below_step (kLI HB) hb)
  clear HO265
  clear HI0
  clear BK272
  clear HK
  clear HB
  clear HO268
  clear HO275
  have HO265 := n0_
  have HO281 := n1_
  have HI0 := n2_
  have BK272 := n3_
  have HK := n4_
  have HB := n5_
  clear n0_ n1_ n2_ n3_ n4_ n5_
  clear hb ho19
  obtain ⟨Ao20, co20, eo20⟩ := Kd.N_slice HO281.out
  (first | subst eo20 | (injection eo20 with f1_ f2_ f3_; have f4_ := f1_.symm; have f5_ := f3_.symm; clear f1_ f2_ f3_; subst f4_; subst f5_))
  refine hK.out _ _ ⟨(blk_cell BK272.out 0).trans rfl, (blk_cell BK272.out 1).trans rfl, (blk_cell BK272.out 2).trans rfl, (blk_cell BK272.out 3).trans rfl, (blk_cell BK272.out 4).trans rfl⟩ (fun hHeld => ?_)
  clear hK K
  refine norm_ (a' := ?_) ?_ ?_
  rotate_left
  ·show Act.put _ (some 19) _ = _
   simp only [Act.put, zT, z0, zS, i64_w, i32_w]
   rfl
  refine one_ (i := 5) (N := some 20) #[true, true, true, true, true, true, false] rfl rfl (by kernel_rfl) (by decide) (fun K hK => ?_)
  refine goes_ Try.func32 (by kernel_rfl) rfl #[.agg #[.int .i64 t259, .string t260, .string t261, .string t262, .slice Ao12 t263.length co12], .slice Ao20 y279.length co20] (by rfl) rfl rfl yA ?_
  with_reducible refine (tree_Node.calls k t259 t260 t261 t262 (fun k_ => some k_ = (.slice Ao12 t263.length co12 : Value).ownBlock) _ _ t263 (fun k_ => ((w.heap.size ≤ k_) ∧ (some k_ ≠ (.slice Ao12 t263.length co12 : Value).ownBlock ∧ (k_ ≠ gb272 ∧ k_ ≠ g)))) _ _ y279 t282 _ ?side1 ?side2 A6.out).mono ?_
  (case side1 => exact Kd.R_V (Kd.R_tight rfl (IsS83.apart HI0.out (Kd.R_types (Kd.R_apart' (HO265.out) (Kd.N_typed HO281.out) (by decide)) BK272.out (by decide)) (by decide))))
  (case side2 => exact Kd.N_V (HO281.out))
  rintro e w21 ⟨v283, rfl, ho0, hb⟩
  refine ⟨_, rfl, ?_⟩
  have HO284 := am (Kd.N_lower (Kd.N_mono (ok' := fun k_ => (w.heap.size ≤ k_) ∧ k_ ≠ gb272 ∧ k_ ≠ g) ho0 (fun k_ hk_ => ⟨Or.elim hk_ (fun hs_ => Or.elim hs_ (fun hs_ => ((IsS83.apart HI0.out (Kd.R_types (Kd.R_apart' (HO265.out) (Kd.N_typed HO281.out) (by decide)) BK272.out (by decide)) (by decide)).1 k_ hs_.symm).1.1.1) (fun hs_ => hs_.1)) (fun hn_ => (Nat.le_trans (keep_size (w := w) (g := g) (row := none) (kK HK)) hn_)), Or.elim hk_ (fun hs_ => Or.elim hs_ (fun hs_ => ((IsS83.apart HI0.out (Kd.R_types (Kd.R_apart' (HO265.out) (Kd.N_typed HO281.out) (by decide)) BK272.out (by decide)) (by decide)).1 k_ hs_.symm).1.2) (fun hs_ => hs_.2.2.1)) (fun hn_ => (Kd.freshB (g := gb272) (o := .cells #[.int .i64 t259, .string t260, .string t261, .string t262, .slice Ao12 t263.length co12] 25 (0, 0)) (kB BK272) k_ hn_)), Or.elim hk_ (fun hs_ => Or.elim hs_ (fun hs_ => ((IsS83.apart HI0.out (Kd.R_types (Kd.R_apart' (HO265.out) (Kd.N_typed HO281.out) (by decide)) BK272.out (by decide)) (by decide)).1 k_ hs_.symm).2) (fun hs_ => hs_.2.2.2)) (fun hn_ => (IsS83.fresh yI k_ hn_))⟩)) (keep_size (w := w) (g := g) (row := none) (kK HK)))
  replace HO265 := am (Kd.R_below (rB HO265) hb)
  replace HO281 := am (Kd.N_elder' (nB HO281) (Kd.N_base ho0) hb)
  replace BK272 := am (bB (kB BK272) hb)
  replace HK := am (KeepBut.trans (kK HK) (KeepBut.of_below hb g none) (.inl rfl))
  replace HB := am (below_step (kLI HB) hb)
  replace HI0 := am (IsS83.below yI hb)
  (try clear hb)
  (try clear hb2)
  (try clear hk)
  (try clear hi)
  (try clear ho0)
  refine hK.out _ _ ⟨(blk_cell BK272.out 0).trans rfl, (blk_cell BK272.out 1).trans rfl, (blk_cell BK272.out 2).trans rfl, (blk_cell BK272.out 3).trans rfl, (blk_cell BK272.out 4).trans rfl⟩ (fun hHeld => ?_)
  clear hK K
  refine norm_ (a' := ?_) ?_ ?_
  rotate_left
  ·show Act.put _ (some 20) _ = _
   simp only [Act.put, zT, z0, zS, i64_w, i32_w]
   rfl
  refine pure_ (i := 6) (N := some 2) (v := ?_) (a' := ?_) #[true, true, true, true, true, true, true] rfl rfl (by kernel_rfl) (fun _ _ _ h => h) (Or.inl ⟨by rfl, ?_⟩) ?_ ?_
  rotate_left
  ·intro w'
   go_simp
   with_reducible rfl
  rotate_left
  ·simp only [Act.put, zT, z0, zS, i64_w, i32_w]
   rfl
  refine done_ (by kernel_rfl) ?_
  try go_wp2
  go_ret
  exact ⟨_, yE, Kd.N_mono (nB HO284) (fun _ hk => hk.1), yI, (kLI HB), (kK HK)⟩
 ·replace c3 := Bool.eq_false_iff.mpr c3
  subst c3
  rw [if_neg (show ¬ (false = true) by decide)] at H
  obtain ⟨⟨t285, t288, t289, t290⟩, A22, H⟩ := bO H
  try dsimp only at H
  obtain ⟨⟨t291, t292, t293, t294⟩, A23, H⟩ := bO H
  try dsimp only at H
  by_cases c24 : t291 = true
  ·subst c24
   rw [if_pos rfl] at H
   obtain ⟨⟨t295, t296, t297, t298, t299, t302, t305, t306, t307⟩, A25, H⟩ := bO H
   try dsimp only at H
   obtain ⟨⟨t309, t312, t313, t314⟩, A26, H⟩ := bO H
   try dsimp only at H
   obtain ⟨y315, hy315⟩ : ∃ y_ : List (List (S25)), y_ = (([t302, t285, t309] : List (List (S25)))) := ⟨_, rfl⟩
   replace H : ((tree_Node.f k t295 t296 t297 t298 t299 y315).bind fun t318 => (some (t318, t312, t313, t314))) = some (r1, r2, r3, r4) := by first | (rw [hy315]; with_reducible exact H) | (have H2_ := (Option.bind_some _ _).symm.trans H; rw [hy315]; with_reducible exact H2_) | (have H2_ := (Option.bind_some _ _).symm.trans H; with_reducible exact H2_) | with_reducible exact H | (rw [hy315]; exact H) | exact H
   have Ny315 := am hy315
   clear hy315
   obtain ⟨t318, A27, H⟩ := bO H
   try dsimp only at H
   simp only [Option.some.injEq, Prod.mk.injEq] at H
   obtain ⟨rfl, rfl, rfl, rfl⟩ := H
   go_enter Try.func93, Try.ntmps93
   try go_wp2_with (first | ((with_reducible refine gC 110 rfl ?_); refine gL (some 9) Try.func110 #[.pointer (some ⟨g, 0, none⟩)] ?_; (with_reducible refine (parse_parser_verbs.calls _ _ _ _ _ _ _ _ _ w0 _ ?side1 ?side2 A2.out).mono ?_); (case side1 => exact yI); (case side2 => exact (kLI HB)); rintro e w28 ⟨rfl, hi, hb, hk⟩; refine ⟨_, rfl, ?_⟩; replace HK := am (KeepBut.trans (kK HK) hk (.inl rfl)); replace HB := am hb; replace HI0 := am hi; (try clear hi hb hk)) | ((with_reducible refine gC 112 rfl ?_); refine gL (some 22) Try.func112 #[.pointer (some ⟨g, 0, none⟩)] ?_; (with_reducible refine (parse_parser_term.calls EXF EXC _ _ _ _ _ _ _ _ _ _ w0 _ ?side1 ?side2 A22.out).mono ?_); (case side1 => exact yI); (case side2 => exact (kLI HB)); rintro e w29 ⟨v286, rfl, ho0, hi, hb, hk⟩; refine ⟨_, rfl, ?_⟩; have HO287 := am (Kd.N_lower (Kd.N_mono (ok' := fun k_ => (w.heap.size ≤ k_) ∧ k_ ≠ g) ho0 (fun k_ hk_ => ⟨(Nat.le_trans (keep_size (w := w) (g := g) (row := none) (kK HK)) hk_), (IsS83.fresh yI k_ hk_)⟩)) (keep_size (w := w) (g := g) (row := none) (kK HK))); replace HK := am (KeepBut.trans (kK HK) hk (.inl rfl)); replace HB := am hb; replace HI0 := am hi; (try clear ho0 hi hb hk)) | ((with_reducible refine gC 110 rfl ?_); refine gL (some 24) Try.func110 #[.pointer (some ⟨g, 0, none⟩)] ?_; (with_reducible refine (parse_parser_verbs.calls _ _ _ _ _ _ _ _ _ w0 _ ?side1 ?side2 A23.out).mono ?_); (case side1 => exact yI); (case side2 => exact (kLI HB)); rintro e w30 ⟨rfl, hi, hb, hk⟩; refine ⟨_, rfl, ?_⟩; replace HO287 := am (Kd.N_mono (Kd.N_keep (Kd.N_mono (ok := fun k_ => (((w.heap.size ≤ k_)) ∧ k_ ≠ g)) (nB HO287) (fun k_ hk_ => (⟨hk_, hk_.2⟩ : _ ∧ k_ ≠ g))) hk (fun _ h => h.2)) (fun _ h => h.1)); replace HK := am (KeepBut.trans (kK HK) hk (.inl rfl)); replace HB := am hb; replace HI0 := am hi; (try clear hi hb hk)) | ((with_reducible refine gC 111 rfl ?_); refine gL (some 29) Try.func111 #[.pointer (some ⟨g, 0, none⟩), .int .i64 4, .string (⟨#[39, 46]⟩ : ByteArray)] ?_; (with_reducible refine (parse_parser_verb.calls EXF EXC _ _ _ _ _ _ _ _ _ _ _ _ _ _ _ _ _ w0 _ ?side1 ?side2 A25.out).mono ?_); (case side1 => exact yI); (case side2 => exact (kLI HB)); rintro e w31 ⟨v300, v303, rfl, ho0, ho1, hi, hb, hk⟩; refine ⟨_, rfl, ?_⟩; have HO301 := am (Kd.R_lower (Kd.R_newM (M := fun k_ => (w.heap.size ≤ k_)) (Kd.R_mono (ok' := fun k_ => True) ho0 (fun _ hk_ => trivial)) (keep_size (w := w) (g := g) (row := none) (kK HK)) (fun k_ h_ => h_)) (keep_size (w := w) (g := g) (row := none) (kK HK))); have HO304 := am (Kd.N_lower (Kd.N_mono (ok' := fun k_ => (w.heap.size ≤ k_) ∧ some k_ ≠ (v300 : Value).ownBlock ∧ some k_ ≠ (v286 : Value).ownBlock ∧ k_ ≠ g) ho1 (fun k_ hk_ => ⟨(Nat.le_trans (keep_size (w := w) (g := g) (row := none) (kK HK)) hk_.1), hk_.2, (Kd.fresh' (Kd.N_lt (nB HO287)) k_ hk_.1), (IsS83.fresh yI k_ hk_.1)⟩)) (keep_size (w := w) (g := g) (row := none) (kK HK))); replace HO287 := am (Kd.N_mono (Kd.N_told (Kd.N_told (Kd.N_oldK (Kd.N_mono (ok := fun k_ => (((w.heap.size ≤ k_)) ∧ k_ ≠ g)) (nB HO287) (fun k_ hk_ => (⟨hk_, hk_.2⟩ : _ ∧ k_ ≠ g))) hk) (Kd.R_base ho0)) (Kd.N_base ho1)) (fun _ h_ => h_.1)); replace HK := am (KeepBut.trans (kK HK) hk (.inl rfl)); replace HB := am hb; replace HI0 := am hi; (try clear ho0 ho1 hi hb hk)) | ((with_reducible refine gD 6 rfl ?_); refine bx 6 #[.int .i64 0, .string (⟨#[]⟩ : ByteArray), .string (⟨#[]⟩ : ByteArray), .string (⟨#[]⟩ : ByteArray), .slice none 0 0] 25 ?_; intro gb308 hg w32 hbox hb; replace HO287 := am (Kd.N_below (Kd.N_elderB (nB HO287) gb308 (Nat.le_of_eq hg.symm)) hb); replace HO301 := am (Kd.R_below (rB HO301) hb); replace HO304 := am (Kd.N_below (Kd.N_elderB (nB HO304) gb308 (Nat.le_of_eq hg.symm)) hb); replace HB := am (below_step (kLI HB) hb); have BK308 := am hbox; have GW308 := am ((by rw [hg]; exact (keep_size (w := w) (g := g) (row := none) (kK HK)) : w.heap.size ≤ gb308)); have GE308 := am ((Nat.le_trans HW0.out (by rw [hg]; exact (keep_size (w := w) (g := g) (row := none) (kK HK)) : w.heap.size ≤ gb308) : w0.heap.size ≤ gb308)); replace HK := am (KeepBut.trans (kK HK) (KeepBut.of_below hb g none) (.inl rfl)); have NB0_308 := am ((by rw [hg]; exact Nat.ne_of_lt (IsS83.lt (show IsS83 w0 _ g s0_0 t305 t306 t307 from yI)) : g ≠ gb308)); have NB308_0 := am ((by rw [hg]; exact Nat.ne_of_gt (IsS83.lt (show IsS83 w0 _ g s0_0 t305 t306 t307 from yI)) : gb308 ≠ g)); replace HI0 := am (IsS83.below yI hb); clear hb hbox hg; have hnb33 := NB308_0.out; have hnc33 := NB0_308.out; obtain ⟨hcz34_0, hcz34_1, hcz34_2, hcz34_3, hcz34_4, hfz34_0, hfz34_1, hfz34_2, hfz34_3, hfz34_4⟩ := bk5 BK308.out; obtain ⟨Ao35, co35, eo35⟩ := Kd.R_slice HO301.out; subst eo35))
   have n0_ : Aside0 (Kd.N k25 25 (((((w32.setCell ⟨gb308, 0, none⟩ (.int .i64 t295)).setCell ⟨gb308, 1, none⟩ (.string t296)).setCell ⟨gb308, 2, none⟩ (.string t297)).setCell ⟨gb308, 3, none⟩ (.string t298)).setCell ⟨gb308, 4, none⟩ (.slice Ao35 t299.length co35)) w.heap.size (fun k_ => (w.heap.size ≤ k_) ∧ some k_ ≠ (.slice Ao35 t299.length co35 : Value).ownBlock ∧ some k_ ≠ (v303 : Value).ownBlock ∧ k_ ≠ g ∧ k_ ≠ gb308) v286 t285) := ⟨by (with_reducible repeat (first | apply Kd.N_alloc | apply Kd.N_drewN | apply Kd.N_drew)); exact Kd.N_mono (Kd.N_far (p := ⟨gb308, 4, none⟩) (Kd.N_far (p := ⟨gb308, 3, none⟩) (Kd.N_far (p := ⟨gb308, 2, none⟩) (Kd.N_far (p := ⟨gb308, 1, none⟩) (Kd.N_far (p := ⟨gb308, 0, none⟩) (Kd.N_mono HO287.out (fun k_ hk => (⟨hk, hk.2⟩ : _ ∧ k_ ≠ gb308))) (fun _ hk => hk.2) (.int .i64 t295)) (fun _ hk => hk.2) (.string t296)) (fun _ hk => hk.2) (.string t297)) (fun _ hk => hk.2) (.string t298)) (fun _ hk => hk.2) (.slice Ao35 t299.length co35)) (fun _ hk => ⟨hk.1.1.1.1.1, ⟨hk.1.1.1.2, ⟨hk.1.1.2, ⟨hk.1.1.1.1.2, hk.1.2⟩⟩⟩⟩)⟩
   have n1_ : Aside0 (Kd.R Kd.string 9 (((((w32.setCell ⟨gb308, 0, none⟩ (.int .i64 t295)).setCell ⟨gb308, 1, none⟩ (.string t296)).setCell ⟨gb308, 2, none⟩ (.string t297)).setCell ⟨gb308, 3, none⟩ (.string t298)).setCell ⟨gb308, 4, none⟩ (.slice Ao35 t299.length co35)) w.heap.size (fun k_ => (w.heap.size ≤ k_)) (.slice Ao35 t299.length co35) t299) := ⟨by (with_reducible repeat (first | apply Kd.R_alloc | apply Kd.R_drewN | apply Kd.R_drew)); exact Kd.R_mono (Kd.R_far (p := ⟨gb308, 4, none⟩) (Kd.R_far (p := ⟨gb308, 3, none⟩) (Kd.R_far (p := ⟨gb308, 2, none⟩) (Kd.R_far (p := ⟨gb308, 1, none⟩) (Kd.R_far (p := ⟨gb308, 0, none⟩) (Kd.R_types HO301.out BK308.out (by decide)) (fun _ hk => hk.2) (.int .i64 t295)) (fun _ hk => hk.2) (.string t296)) (fun _ hk => hk.2) (.string t297)) (fun _ hk => hk.2) (.string t298)) (fun _ hk => hk.2) (.slice Ao35 t299.length co35)) (fun _ hk => hk.1.1)⟩
   have n2_ : Aside0 (Kd.N k25 25 (((((w32.setCell ⟨gb308, 0, none⟩ (.int .i64 t295)).setCell ⟨gb308, 1, none⟩ (.string t296)).setCell ⟨gb308, 2, none⟩ (.string t297)).setCell ⟨gb308, 3, none⟩ (.string t298)).setCell ⟨gb308, 4, none⟩ (.slice Ao35 t299.length co35)) w.heap.size (fun k_ => (w.heap.size ≤ k_) ∧ some k_ ≠ (v286 : Value).ownBlock ∧ some k_ ≠ (.slice Ao35 t299.length co35 : Value).ownBlock ∧ k_ ≠ g ∧ k_ ≠ gb308) v303 t302) := ⟨by (with_reducible repeat (first | apply Kd.N_alloc | apply Kd.N_drewN | apply Kd.N_drew)); exact Kd.N_mono (Kd.N_far (p := ⟨gb308, 4, none⟩) (Kd.N_far (p := ⟨gb308, 3, none⟩) (Kd.N_far (p := ⟨gb308, 2, none⟩) (Kd.N_far (p := ⟨gb308, 1, none⟩) (Kd.N_far (p := ⟨gb308, 0, none⟩) (Kd.N_mono HO304.out (fun k_ hk => (⟨hk, hk.2⟩ : _ ∧ k_ ≠ gb308))) (fun _ hk => hk.2) (.int .i64 t295)) (fun _ hk => hk.2) (.string t296)) (fun _ hk => hk.2) (.string t297)) (fun _ hk => hk.2) (.string t298)) (fun _ hk => hk.2) (.slice Ao35 t299.length co35)) (fun _ hk => ⟨hk.1.1.1, ⟨hk.1.1.2.2.1, ⟨hk.1.1.2.1, ⟨hk.1.1.2.2.2, hk.1.2⟩⟩⟩⟩)⟩
   have n3_ : Aside0 ((((((w32.setCell ⟨gb308, 0, none⟩ (.int .i64 t295)).setCell ⟨gb308, 1, none⟩ (.string t296)).setCell ⟨gb308, 2, none⟩ (.string t297)).setCell ⟨gb308, 3, none⟩ (.string t298)).setCell ⟨gb308, 4, none⟩ (.slice Ao35 t299.length co35)).heap[gb308]? = some (.cells #[.int .i64 t295, .string t296, .string t297, .string t298, .slice Ao35 t299.length co35] 25 (0, 0))) := ⟨kM BK308⟩
   have n4_ : Aside0 (IsS83 w0 (((((w32.setCell ⟨gb308, 0, none⟩ (.int .i64 t295)).setCell ⟨gb308, 1, none⟩ (.string t296)).setCell ⟨gb308, 2, none⟩ (.string t297)).setCell ⟨gb308, 3, none⟩ (.string t298)).setCell ⟨gb308, 4, none⟩ (.slice Ao35 t299.length co35)) g s0_0 t305 t306 t307) := ⟨yI⟩
   have n5_ : Aside0 (KeepBut w (((((w32.setCell ⟨gb308, 0, none⟩ (.int .i64 t295)).setCell ⟨gb308, 1, none⟩ (.string t296)).setCell ⟨gb308, 2, none⟩ (.string t297)).setCell ⟨gb308, 3, none⟩ (.string t298)).setCell ⟨gb308, 4, none⟩ (.slice Ao35 t299.length co35)) g none) := ⟨(kK HK)⟩
   have n6_ : Aside0 (Below w0.heap.size w0 (((((w32.setCell ⟨gb308, 0, none⟩ (.int .i64 t295)).setCell ⟨gb308, 1, none⟩ (.string t296)).setCell ⟨gb308, 2, none⟩ (.string t297)).setCell ⟨gb308, 3, none⟩ (.string t298)).setCell ⟨gb308, 4, none⟩ (.slice Ao35 t299.length co35))) := ⟨(kLI HB)⟩
   (try clear HO287)
   (try clear HO301)
   (try clear HO304)
   (try clear BK308)
   (try clear HI0)
   (try clear HK)
   (try clear HB)
   generalize (((((w32.setCell ⟨gb308, 0, none⟩ (.int .i64 t295)).setCell ⟨gb308, 1, none⟩ (.string t296)).setCell ⟨gb308, 2, none⟩ (.string t297)).setCell ⟨gb308, 3, none⟩ (.string t298)).setCell ⟨gb308, 4, none⟩ (.slice Ao35 t299.length co35)) = w36 at n0_ n1_ n2_ n3_ n4_ n5_ n6_ ⊢
   have HO287 := n0_
   have HO301 := n1_
   have HO304 := n2_
   have BK308 := n3_
   have HI0 := n4_
   have HK := n5_
   have HB := n6_
   clear n0_ n1_ n2_ n3_ n4_ n5_ n6_
   replace HO287 := am (Kd.N_drew HO287.out)
   replace HO301 := am (Kd.R_drew HO301.out)
   replace HO304 := am (Kd.N_drew HO304.out)
   replace BK308 := am (bD BK308.out)
   replace HI0 := am (IsS83.drew HI0.out)
   replace HK := am (keep_drew HK.out)
   replace HB := am (lD HB.out)
   refine start_ (n := 8) (S := fun w' => w'.cell? ⟨gb308, 0, none⟩ = some (.int .i64 t295) ∧ w'.cell? ⟨gb308, 1, none⟩ = some (.string t296) ∧ w'.cell? ⟨gb308, 2, none⟩ = some (.string t297) ∧ w'.cell? ⟨gb308, 3, none⟩ = some (.string t298) ∧ w'.cell? ⟨gb308, 4, none⟩ = some (.slice Ao35 t299.length co35)) (ds := []) #[false, false, false, false, false, false, false, false] (by kernel_rfl) rfl rfl ⟨(blk_cell BK308.out 0).trans rfl, (blk_cell BK308.out 1).trans rfl, (blk_cell BK308.out 2).trans rfl, (blk_cell BK308.out 3).trans rfl, (blk_cell BK308.out 4).trans rfl⟩ (fun hHeld => ?_); refine with_tabW parse_parser_exprB.tab8 parse_parser_exprB.bits8 (fun HT_ HW_ => ?_)
   generalize w36.drew = w37 at HO287 HO301 HO304 BK308 HI0 HK HB hHeld ⊢
   refine pure_ (i := 1) (N := some 33) (v := ?_) (a' := ?_) #[false, true, false, false, false, false, false, false] rfl rfl (any_of HT_.out (by kernel_rfl)) (fun _ _ _ h => h) (Or.inl ⟨by rfl, ?_⟩) ?_ ?_
   rotate_left
   ·intro w'
    go_simp
    with_reducible rfl
   rotate_left
   ·simp only [Act.put, zT, z0, zS, i64_w, i32_w]
    rfl
   refine pure_ (i := 2) (N := some 34) (v := ?_) (a' := ?_) #[false, true, true, false, false, false, false, false] rfl rfl (any_of HT_.out (by kernel_rfl)) (fun _ _ _ h => h) (Or.inl ⟨by rfl, ?_⟩) ?_ ?_
   rotate_left
   ·intro w'
    go_simp
    with_reducible rfl
   rotate_left
   ·simp only [Act.put, zT, z0, zS, i64_w, i32_w]
    rfl
   refine pure_ (i := 3) (N := some 35) (v := ?_) (a' := ?_) #[false, true, true, true, false, false, false, false] rfl rfl (any_of HT_.out (by kernel_rfl)) (fun _ _ _ h => h) (Or.inl ⟨by rfl, ?_⟩) ?_ ?_
   rotate_left
   ·intro w'
    go_simp
    with_reducible rfl
   rotate_left
   ·simp only [Act.put, zT, z0, zS, i64_w, i32_w]
    rfl
   refine take_ (i := 0) (N := some 32) (v := ?_) (a' := ?_) #[true, true, true, true, false, false, false, false] rfl rfl (take_ofW HT_.out HW_.out (by kernel_rfl)) (fun _ _ _ h => h) (Or.inl ⟨by rfl, ?_⟩) hHeld ?_ ?_
   rotate_left
   ·rintro w' ⟨s0, s1, s2, s3, s4⟩
    go_simp
    with_reducible rfl
   rotate_left
   ·simp only [Act.put, zT, z0, zS, i64_w, i32_w]
    rfl
   refine one_ (i := 4) (N := some 36) #[true, true, true, true, true, false, false, false] rfl rfl (one_of HT_.out (by kernel_rfl)) (by decide) (fun K hK => ?_)
   refine goes_ Try.func93 (by kernel_rfl) rfl #[.pointer (some ⟨g, 0, none⟩)] (by rfl) rfl rfl yA ?_
   with_reducible refine (EXC.out _ _ _ _ _ _ _ _ _ w0 _ ?side1 ?side2 A26.out).mono ?_
   (case side1 => exact yI)
   (case side2 => exact (kLI HB))
   rintro e w38 ⟨v310, rfl, ho0, hi, hb, hk⟩
   refine ⟨_, rfl, ?_⟩
   have HO311 := am (Kd.N_lower (Kd.N_mono (ok' := fun k_ => (w.heap.size ≤ k_) ∧ some k_ ≠ (v286 : Value).ownBlock ∧ some k_ ≠ (.slice Ao35 t299.length co35 : Value).ownBlock ∧ some k_ ≠ (v303 : Value).ownBlock ∧ k_ ≠ gb308 ∧ k_ ≠ g) ho0 (fun k_ hk_ => ⟨(Nat.le_trans (keep_size (w := w) (g := g) (row := none) (kK HK)) hk_), (Kd.fresh' (Kd.N_lt (nB HO287)) k_ hk_), (Kd.fresh' (Kd.R_lt (rB HO301)) k_ hk_), (Kd.fresh' (Kd.N_lt (nB HO304)) k_ hk_), (fB BK308 k_ hk_), (IsS83.fresh yI k_ hk_)⟩)) (keep_size (w := w) (g := g) (row := none) (kK HK)))
   replace HO287 := am (Kd.N_mono (Kd.N_told (Kd.N_oldK (Kd.N_mono (ok := fun k_ => (((w.heap.size ≤ k_)) ∧ (some k_ ≠ (.slice Ao35 t299.length co35 : Value).ownBlock ∧ (some k_ ≠ (v303 : Value).ownBlock ∧ (k_ ≠ g ∧ k_ ≠ gb308))))) (nB HO287) (fun k_ hk_ => (⟨hk_, hk_.2.2.2.1⟩ : _ ∧ k_ ≠ g))) hk) (Kd.N_base ho0)) (fun _ h_ => h_.1))
   replace HO301 := am (Kd.R_mono (Kd.R_keep (IsS83.apart (show IsS83 w0 _ g s0_0 t305 t306 t307 from yI) (rB HO301) (by decide)) hk (fun _ h => h.2)) (fun _ h => h.1))
   replace HO304 := am (Kd.N_mono (Kd.N_told (Kd.N_oldK (Kd.N_mono (ok := fun k_ => (((w.heap.size ≤ k_)) ∧ (some k_ ≠ (v286 : Value).ownBlock ∧ (some k_ ≠ (.slice Ao35 t299.length co35 : Value).ownBlock ∧ (k_ ≠ g ∧ k_ ≠ gb308))))) (nB HO304) (fun k_ hk_ => (⟨hk_, hk_.2.2.2.1⟩ : _ ∧ k_ ≠ g))) hk) (Kd.N_base ho0)) (fun _ h_ => h_.1))
   replace BK308 := am (KeepBut.blk hk (kB BK308) NB308_0.out (by simp))
   replace HK := am (KeepBut.trans (kK HK) hk (.inl rfl))
   replace HB := am hb
   replace HI0 := am hi
   (try clear hb)
   (try clear hb2)
   (try clear hk)
   (try clear hi)
   (try clear ho0)
   obtain ⟨Ao39, co39, eo39⟩ := Kd.N_slice HO304.out
   (first | subst eo39 | (injection eo39 with f1_ f2_ f3_; have f4_ := f1_.symm; have f5_ := f3_.symm; clear f1_ f2_ f3_; subst f4_; subst f5_))
   obtain ⟨Ao40, co40, eo40⟩ := Kd.N_slice HO287.out
   (first | subst eo40 | (injection eo40 with f1_ f2_ f3_; have f4_ := f1_.symm; have f5_ := f3_.symm; clear f1_ f2_ f3_; subst f4_; subst f5_))
   obtain ⟨Ao41, co41, eo41⟩ := Kd.N_slice HO311.out
   (first | subst eo41 | (injection eo41 with f1_ f2_ f3_; have f4_ := f1_.symm; have f5_ := f3_.symm; clear f1_ f2_ f3_; subst f4_; subst f5_))
   refine hK.out _ _ ⟨(blk_cell BK308.out 0).trans rfl, (blk_cell BK308.out 1).trans rfl, (blk_cell BK308.out 2).trans rfl, (blk_cell BK308.out 3).trans rfl, (blk_cell BK308.out 4).trans rfl⟩ (fun hHeld => ?_)
   clear hK K
   refine norm_ (a' := ?_) ?_ ?_
   rotate_left
   ·show Act.put _ (some 36) _ = _
    simp only [Act.put, zT, z0, zS, i64_w, i32_w]
    rfl
   refine one_ (i := 5) (N := some 37) #[true, true, true, true, true, true, false, false] rfl rfl (one_of HT_.out (by kernel_rfl)) (by decide) (fun K hK => ?_)
   refine Kd.N_lit_step (Kd.slice 25 k25) _ 22 ?hg (N' := 37) ?hd (xs := ([t302, t285, t309] : List (List (S25)))) (inner := [.slice Ao39 t302.length co39, .slice Ao40 t285.length co40, .slice Ao41 t309.length co41]) (ok := (fun k_ => (w.heap.size ≤ k_) ∧ some k_ ≠ (.slice Ao35 t299.length co35 : Value).ownBlock ∧ k_ ≠ gb308 ∧ k_ ≠ g)) (okp := (fun k_ => (w.heap.size ≤ k_) ∧ some k_ ≠ (.slice Ao35 t299.length co35 : Value).ownBlock ∧ k_ ≠ gb308 ∧ k_ ≠ g)) ?hr ?hp (fun _ hk => hk) ((show ∀ k_, w38.heap.size ≤ k_ → (fun k_ => (w.heap.size ≤ k_) ∧ some k_ ≠ (.slice Ao35 t299.length co35 : Value).ownBlock ∧ k_ ≠ gb308 ∧ k_ ≠ g) k_ from fun k_ hk => ⟨(Nat.le_trans (keep_size (w := w) (g := g) (row := none) (kK HK)) hk), Kd.fresh' (Kd.R_lt (rB HO301)) k_ hk, Kd.freshB (g := gb308) (o := .cells #[.int .i64 t295, .string t296, .string t297, .string t298, .slice Ao35 t299.length co35] 25 (0, 0)) (kB BK308) k_ hk, IsS83.fresh yI k_ hk⟩) _ (Nat.le_refl _)) (Below.refl _ _) (Nat.le_refl _) (by simp) ?_; (case hd => rfl); (case hg => rfl); (case hr => first | (go_simp; done) | (go_simp; rfl)); (case hp => exact (Reps.one (show Kd.FK (Kd.slice 25 k25) _ _ t302 [.slice Ao39 t302.length co39] from (Kd.FK_slice_mk (Kd.N_reads' (Kd.N_mono (ok' := (fun k_ => (w.heap.size ≤ k_) ∧ some k_ ≠ (.slice Ao35 t299.length co35 : Value).ownBlock ∧ k_ ≠ gb308 ∧ k_ ≠ g)) (HO304.out) (fun k_ hk => ⟨hk.1.1, ⟨hk.1.2.2.1, ⟨hk.1.2.2.2.2, hk.1.2.2.2.1⟩⟩⟩))).2.1 (Kd.N_F (Kd.N_mono (ok' := (fun k_ => (w.heap.size ≤ k_) ∧ some k_ ≠ (.slice Ao35 t299.length co35 : Value).ownBlock ∧ k_ ≠ gb308 ∧ k_ ≠ g)) (HO304.out) (fun k_ hk => ⟨hk.1.1, ⟨hk.1.2.2.1, ⟨hk.1.2.2.2.2, hk.1.2.2.2.1⟩⟩⟩))))) (Reps.one (show Kd.FK (Kd.slice 25 k25) _ _ t285 [.slice Ao40 t285.length co40] from (Kd.FK_slice_mk (Kd.N_reads' (Kd.N_mono (ok' := (fun k_ => (w.heap.size ≤ k_) ∧ some k_ ≠ (.slice Ao35 t299.length co35 : Value).ownBlock ∧ k_ ≠ gb308 ∧ k_ ≠ g)) (HO287.out) (fun k_ hk => ⟨hk.1.1, ⟨hk.1.2.1, ⟨hk.1.2.2.2.2, hk.1.2.2.2.1⟩⟩⟩))).2.1 (Kd.N_F (Kd.N_mono (ok' := (fun k_ => (w.heap.size ≤ k_) ∧ some k_ ≠ (.slice Ao35 t299.length co35 : Value).ownBlock ∧ k_ ≠ gb308 ∧ k_ ≠ g)) (HO287.out) (fun k_ hk => ⟨hk.1.1, ⟨hk.1.2.1, ⟨hk.1.2.2.2.2, hk.1.2.2.2.1⟩⟩⟩))))) (Reps.one (show Kd.FK (Kd.slice 25 k25) _ _ t309 [.slice Ao41 t309.length co41] from (Kd.FK_slice_mk (Kd.N_reads' (Kd.N_mono (ok' := (fun k_ => (w.heap.size ≤ k_) ∧ some k_ ≠ (.slice Ao35 t299.length co35 : Value).ownBlock ∧ k_ ≠ gb308 ∧ k_ ≠ g)) (HO311.out) (fun k_ hk => ⟨hk.1, ⟨hk.2.2.1, ⟨hk.2.2.2.2.1, hk.2.2.2.2.2⟩⟩⟩))).2.1 (Kd.N_F (Kd.N_mono (ok' := (fun k_ => (w.heap.size ≤ k_) ∧ some k_ ≠ (.slice Ao35 t299.length co35 : Value).ownBlock ∧ k_ ≠ gb308 ∧ k_ ≠ g)) (HO311.out) (fun k_ hk => ⟨hk.1, ⟨hk.2.2.1, ⟨hk.2.2.2.2.1, hk.2.2.2.2.2⟩⟩⟩))))) (Reps.none _ _)))))
   intro v316 w42 ho43 hb hg_ hnew_
   clear hg_ hnew_
   (first | rw [← Ny315.out] at ho43 | (simp only [Int.reduceToNat] at ho43; rw [← Ny315.out] at ho43))
   have n0_ := am (Kd.R_below (rB HO301) hb)
   have n1_ := am (Kd.N_lower ho43 (keep_size (w := w) (g := g) (row := none) (kK HK)))
   have n2_ := am (IsS83.below yI hb)
   have n3_ := am (bB (kB BK308) hb)
   have n4_ := am (KeepBut.trans (kK HK) (KeepBut.of_below hb g none) (.inl rfl))
   have n5_ := am (below_step (kLI HB) hb)
   clear HO301
   clear HI0
   clear BK308
   clear HK
   clear HB
   clear HO287
   clear HO304
   clear HO311
   have HO301 := n0_
   have HO317 := n1_
   have HI0 := n2_
   have BK308 := n3_
   have HK := n4_
   have HB := n5_
   clear n0_ n1_ n2_ n3_ n4_ n5_
   clear hb ho43
   obtain ⟨Ao44, co44, eo44⟩ := Kd.N_slice HO317.out
   (first | subst eo44 | (injection eo44 with f1_ f2_ f3_; have f4_ := f1_.symm; have f5_ := f3_.symm; clear f1_ f2_ f3_; subst f4_; subst f5_))
   refine hK.out _ _ ⟨(blk_cell BK308.out 0).trans rfl, (blk_cell BK308.out 1).trans rfl, (blk_cell BK308.out 2).trans rfl, (blk_cell BK308.out 3).trans rfl, (blk_cell BK308.out 4).trans rfl⟩ (fun hHeld => ?_)
   clear hK K
   refine norm_ (a' := ?_) ?_ ?_
   rotate_left
   ·show Act.put _ (some 37) _ = _
    simp only [Act.put, zT, z0, zS, i64_w, i32_w]
    rfl
   refine one_ (i := 6) (N := some 38) #[true, true, true, true, true, true, true, false] rfl rfl (one_of HT_.out (by kernel_rfl)) (by decide) (fun K hK => ?_)
   refine goes_ Try.func32 (by kernel_rfl) rfl #[.agg #[.int .i64 t295, .string t296, .string t297, .string t298, .slice Ao35 t299.length co35], .slice Ao44 y315.length co44] (by rfl) rfl rfl yA ?_
   with_reducible refine (tree_Node.calls k t295 t296 t297 t298 (fun k_ => some k_ = (.slice Ao35 t299.length co35 : Value).ownBlock) _ _ t299 (fun k_ => ((w.heap.size ≤ k_) ∧ (some k_ ≠ (.slice Ao35 t299.length co35 : Value).ownBlock ∧ (k_ ≠ gb308 ∧ k_ ≠ g)))) _ _ y315 t318 _ ?side1 ?side2 A27.out).mono ?_
   (case side1 => exact Kd.R_V (Kd.R_tight rfl (IsS83.apart HI0.out (Kd.R_types (Kd.R_apart' (HO301.out) (Kd.N_typed HO317.out) (by decide)) BK308.out (by decide)) (by decide))))
   (case side2 => exact Kd.N_V (HO317.out))
   rintro e w45 ⟨v319, rfl, ho0, hb⟩
   refine ⟨_, rfl, ?_⟩
   have HO320 := am (Kd.N_lower (Kd.N_mono (ok' := fun k_ => (w.heap.size ≤ k_) ∧ k_ ≠ gb308 ∧ k_ ≠ g) ho0 (fun k_ hk_ => ⟨Or.elim hk_ (fun hs_ => Or.elim hs_ (fun hs_ => ((IsS83.apart HI0.out (Kd.R_types (Kd.R_apart' (HO301.out) (Kd.N_typed HO317.out) (by decide)) BK308.out (by decide)) (by decide)).1 k_ hs_.symm).1.1.1) (fun hs_ => hs_.1)) (fun hn_ => (Nat.le_trans (keep_size (w := w) (g := g) (row := none) (kK HK)) hn_)), Or.elim hk_ (fun hs_ => Or.elim hs_ (fun hs_ => ((IsS83.apart HI0.out (Kd.R_types (Kd.R_apart' (HO301.out) (Kd.N_typed HO317.out) (by decide)) BK308.out (by decide)) (by decide)).1 k_ hs_.symm).1.2) (fun hs_ => hs_.2.2.1)) (fun hn_ => (Kd.freshB (g := gb308) (o := .cells #[.int .i64 t295, .string t296, .string t297, .string t298, .slice Ao35 t299.length co35] 25 (0, 0)) (kB BK308) k_ hn_)), Or.elim hk_ (fun hs_ => Or.elim hs_ (fun hs_ => ((IsS83.apart HI0.out (Kd.R_types (Kd.R_apart' (HO301.out) (Kd.N_typed HO317.out) (by decide)) BK308.out (by decide)) (by decide)).1 k_ hs_.symm).2) (fun hs_ => hs_.2.2.2)) (fun hn_ => (IsS83.fresh yI k_ hn_))⟩)) (keep_size (w := w) (g := g) (row := none) (kK HK)))
   replace HO301 := am (Kd.R_below (rB HO301) hb)
   replace HO317 := am (Kd.N_elder' (nB HO317) (Kd.N_base ho0) hb)
   replace BK308 := am (bB (kB BK308) hb)
   replace HK := am (KeepBut.trans (kK HK) (KeepBut.of_below hb g none) (.inl rfl))
   replace HB := am (below_step (kLI HB) hb)
   replace HI0 := am (IsS83.below yI hb)
   (try clear hb)
   (try clear hb2)
   (try clear hk)
   (try clear hi)
   (try clear ho0)
   refine hK.out _ _ ⟨(blk_cell BK308.out 0).trans rfl, (blk_cell BK308.out 1).trans rfl, (blk_cell BK308.out 2).trans rfl, (blk_cell BK308.out 3).trans rfl, (blk_cell BK308.out 4).trans rfl⟩ (fun hHeld => ?_)
   clear hK K
   refine norm_ (a' := ?_) ?_ ?_
   rotate_left
   ·show Act.put _ (some 38) _ = _
    simp only [Act.put, zT, z0, zS, i64_w, i32_w]
    rfl
   refine pure_ (i := 7) (N := some 2) (v := ?_) (a' := ?_) #[true, true, true, true, true, true, true, true] rfl rfl (any_of HT_.out (by kernel_rfl)) (fun _ _ _ h => h) (Or.inl ⟨by rfl, ?_⟩) ?_ ?_
   rotate_left
   ·intro w'
    go_simp
    with_reducible rfl
   rotate_left
   ·simp only [Act.put, zT, z0, zS, i64_w, i32_w]
    rfl
   refine done_ (done_of HT_.out (by kernel_rfl)) ?_
   try go_wp2
   go_ret
   exact ⟨_, yE, Kd.N_mono (nB HO320) (fun _ hk => hk.1), yI, (kLI HB), (kK HK)⟩
  ·replace c24 := Bool.eq_false_iff.mpr c24
   subst c24
   rw [if_neg (show ¬ (false = true) by decide)] at H
   simp only [Option.some.injEq, Prod.mk.injEq] at H
   obtain ⟨rfl, rfl, rfl, rfl⟩ := H
   go_enter Try.func93, Try.ntmps93
   go_wp2_with (first | ((with_reducible refine gC 110 rfl ?_); refine gL (some 9) Try.func110 #[.pointer (some ⟨g, 0, none⟩)] ?_; (with_reducible refine (parse_parser_verbs.calls _ _ _ _ _ _ _ _ _ w0 _ ?side1 ?side2 A2.out).mono ?_); (case side1 => exact yI); (case side2 => exact (kLI HB)); rintro e w46 ⟨rfl, hi, hb, hk⟩; refine ⟨_, rfl, ?_⟩; replace HK := am (KeepBut.trans (kK HK) hk (.inl rfl)); replace HB := am hb; replace HI0 := am hi; (try clear hi hb hk)) | ((with_reducible refine gC 112 rfl ?_); refine gL (some 22) Try.func112 #[.pointer (some ⟨g, 0, none⟩)] ?_; (with_reducible refine (parse_parser_term.calls EXF EXC _ _ _ _ _ _ _ _ _ _ w0 _ ?side1 ?side2 A22.out).mono ?_); (case side1 => exact yI); (case side2 => exact (kLI HB)); rintro e w47 ⟨v286, rfl, ho0, hi, hb, hk⟩; refine ⟨_, rfl, ?_⟩; have HO287 := am (Kd.N_lower (Kd.N_mono (ok' := fun k_ => (w.heap.size ≤ k_) ∧ k_ ≠ g) ho0 (fun k_ hk_ => ⟨(Nat.le_trans (keep_size (w := w) (g := g) (row := none) (kK HK)) hk_), (IsS83.fresh yI k_ hk_)⟩)) (keep_size (w := w) (g := g) (row := none) (kK HK))); replace HK := am (KeepBut.trans (kK HK) hk (.inl rfl)); replace HB := am hb; replace HI0 := am hi; (try clear ho0 hi hb hk)) | ((with_reducible refine gC 110 rfl ?_); refine gL (some 24) Try.func110 #[.pointer (some ⟨g, 0, none⟩)] ?_; (with_reducible refine (parse_parser_verbs.calls _ _ _ _ _ _ _ _ _ w0 _ ?side1 ?side2 A23.out).mono ?_); (case side1 => exact yI); (case side2 => exact (kLI HB)); rintro e w48 ⟨rfl, hi, hb, hk⟩; refine ⟨_, rfl, ?_⟩; replace HO287 := am (Kd.N_mono (Kd.N_keep (Kd.N_mono (ok := fun k_ => (((w.heap.size ≤ k_)) ∧ k_ ≠ g)) (nB HO287) (fun k_ hk_ => (⟨hk_, hk_.2⟩ : _ ∧ k_ ≠ g))) hk (fun _ h => h.2)) (fun _ h => h.1)); replace HK := am (KeepBut.trans (kK HK) hk (.inl rfl)); replace HB := am hb; replace HI0 := am hi; (try clear hi hb hk)))
   go_ret
   exact ⟨_, yE, Kd.N_mono (nB HO287) (fun _ hk => hk.1), yI, (kLI HB), (kK HK)⟩
end Go.Proofs.Ytdelccahgchadaa.P
end
section
namespace Go.Proofs.Ytdelccahgchadaa
open Go.RowKit Go.Lib Go.Proofs.Ytdelccahgchadaa.P Go.Proofs.YtdelccahgchadaaW.PrintWords Go.Proofs.YtdelccahgchadaaW.PrintMore
set_option linter.unusedVariables false
def Ps (l : List Tt) (st : PSt) : Int := ((l.length - st.1.length : Nat) : Int)
theorem suffix_drop {l m : List Tt} (h : m <:+ l) : l.drop (l.length - m.length) = m ∧ m.length ≤ l.length := by
 obtain ⟨p, rfl⟩ := h
 rw [List.length_append]
 exact ⟨by rw [show p.length + m.length - m.length = p.length by omega, List.drop_left], by omega⟩
theorem rd_tok (l : List Tt) (i : Nat) (t : Tt) (r : List Tt) (h : l.drop i = t :: r) : rd_T71 l (i : Int) = t ∧ i < l.length := by
 have hi : i < l.length := by
  have := congrArg List.length h
  rw [List.length_drop, List.length_cons] at this
  omega
 have hd := List.drop_eq_getElem_cons hi
 rw [h] at hd
 injection hd with h1 h2
 refine ⟨?_, hi⟩
 unfold rd_T71
 rw [Int.toNat_natCast, List.getD_eq_getElem?_getD, List.getElem?_eq_getElem hi]
 exact h1.symm
section
variable (l : List Tt) (hl : l.length ≤ 1000000) (en : Int)
theorem Ps_bounds (l : List Tt) (hl : l.length ≤ 1000000) (st : PSt) : 0 ≤ Ps l st ∧ Ps l st ≤ 1000000 := by unfold Ps; omega
theorem Ps_next (l : List Tt) (hl : l.length ≤ 1000000) (st : PSt) (hs : st.1 <:+ l) (hk : kd0 st ≠ 0) : wrap64 (Ps l st + 1) = Ps l (next st) := by
 have hb := Ps_bounds l hl st
 have h1 := (kd0_taken hk).2
 have h2 := hs.length_le
 rw [wrap_id (by omega) (by omega)]
 unfold Ps
 omega
theorem look0 (l : List Tt) (hl : l.length ≤ 1000000) (en : Int) (st : PSt) (hs : st.1 <:+ l) : ∃ a, parse_parser_look.f l (Ps l st) en st.2 0 = some (kd0 st, tx0 st, a, Ps l st, en, st.2) := by
 have hb := Ps_bounds l hl st
 have hw : wrap64 (Ps l st + 0) = Ps l st := by rw [Int.add_zero, wrap_id (by omega) (by omega)]
 unfold parse_parser_look.f
 rw [hw]
 clear hw
 obtain ⟨m, b⟩ := st
 cases b with
 | true => exact ⟨en, by rw [if_pos rfl]; rfl⟩
 | false =>
  rw [if_neg (fun e : (m, false).2 = true => by cases e)]
  obtain ⟨hd, hle⟩ := suffix_drop hs
  cases m with
  | nil =>
   have : Ps l ([], false) = (l.length : Int) := by unfold Ps; simp
   exact ⟨en, by rw [if_pos (by omega)]; rfl⟩
  | cons t r =>
   obtain ⟨h1, h2⟩ := rd_tok l (l.length - (t :: r).length) t r hd
   have : Ps l (t :: r, false) = ((l.length - (t :: r).length : Nat) : Int) := rfl
   rw [this, if_neg (by omega), if_pos (by omega), h1]
   exact ⟨t.f2, rfl⟩
theorem isM_iff (m : UInt8) (st : PSt) : isM m st = true ↔ kd0 st = 6 ∧ tx0 st = ⟨#[m]⟩ := by
 unfold isM
 rw [Bool.and_eq_true, beq_iff_eq, beq_iff_eq]
 exact ⟨fun h => ⟨h.1, L_ext h.2⟩, fun h => ⟨h.1, by rw [h.2]⟩⟩
theorem is0 (l : List Tt) (hl : l.length ≤ 1000000) (en : Int) (st : PSt) (hs : st.1 <:+ l) (m : UInt8) : parse_parser_is.f l (Ps l st) en st.2 0 (⟨#[m]⟩ : ByteArray) = some (isM m st, Ps l st, en, st.2) := by
 obtain ⟨a, h⟩ := look0 l hl en st hs
 unfold parse_parser_is.f
 rw [h]
 simp only [Option.bind_some]
 by_cases h6 : kd0 st = 6
 ·rw [if_pos h6]
  have : ((tx0 st).toList == (⟨#[m]⟩ : ByteArray).toList) = isM m st := by
   rw [Bool.eq_iff_iff, beq_iff_eq, isM_iff, toList_L, toList_L]
   exact ⟨fun h => ⟨h6, L_ext h⟩, fun h => by rw [h.2]⟩
  rw [this]
 ·rw [if_neg h6]
  have : isM m st = false := by rw [← Bool.not_eq_true, isM_iff]; exact fun h => h6 h.1
  rw [this]
theorem mark0 (l : List Tt) (hl : l.length ≤ 1000000) (en : Int) (st : PSt) (hs : st.1 <:+ l) (m : UInt8) : parse_parser_mark.f l (Ps l st) en st.2 (⟨#[m]⟩ : ByteArray) = some (Ps l (markS m st), en, (markS m st).2) := by
 unfold parse_parser_mark.f
 rw [is0 l hl en st hs m]
 simp only [Option.bind_some]
 unfold markS
 by_cases h : isM m st = true
 ·rw [if_pos h, if_pos h, Ps_next l hl st hs (by rw [isM_kd h]; decide)]; rfl
 ·rw [if_neg h, if_neg h]; rfl
theorem verbs0 (l : List Tt) (hl : l.length ≤ 1000000) (en : Int) (st : PSt) (hs : st.1 <:+ l) : parse_parser_verbs.f l (Ps l st) en st.2 = some (verbal st, Ps l st, en, st.2) := by
 obtain ⟨a, h⟩ := look0 l hl en st hs
 unfold parse_parser_verbs.f
 rw [h]
 simp only [Option.bind_some]
 unfold verbal
 by_cases h4 : kd0 st = 4
 ·rw [if_pos h4, h4]; rfl
 ·have e4 : (kd0 st == 4) = false := by rw [beq_eq_false_iff_ne]; exact h4
  rw [if_neg h4, e4]
  by_cases h3 : kd0 st = 3
  ·rw [if_pos h3, h3]; rfl
  ·have e3 : (kd0 st == 3) = false := by rw [beq_eq_false_iff_ne]; exact h3
   rw [if_neg h3, e3, is0 l hl en st hs]
   rfl
end
def EOk (l : List Tt) (en : Int) (EXF : EX_F) (E : ES) (n : Nat) : Prop := GoodE E n ∧ ∀ st, st.1 <:+ l → meas st < n → EXF l (Ps l st) en st.2 = some ((E st).1, Ps l (E st).2, en, (E st).2.2)
theorem Taken.suf {a b : PSt} {l : List Tt} (h : Taken a b) (hs : a.1 <:+ l) : b.1 <:+ l := h.1.trans hs
theorem verb0 (l : List Tt) (hl : l.length ≤ 1000000) (en : Int) (EXF : EX_F) (E : ES) (n : Nat) (hE : EOk l en EXF E n) (k : Nat) (hk : 1 ≤ k) (st : PSt) (hs : st.1 <:+ l) (hv : verbal st = true) (hm : meas st < n + 1) (kind : Int) (a2 : ByteArray) :
  parse_parser_verb.f EXF k l (Ps l st) en st.2 kind a2 = some ((verbS E kind (L a2) st).1.f0, (verbS E kind (L a2) st).1.f1, (verbS E kind (L a2) st).1.f2, (verbS E kind (L a2) st).1.f3, (verbS E kind (L a2) st).1.f4, (verbS E kind (L a2) st).2.1, Ps l (verbS E kind (L a2) st).2.2, en, (verbS E kind (L a2) st).2.2.2) := by
 obtain ⟨k, rfl⟩ : ∃ j, k = j + 1 := ⟨k - 1, by omega⟩
 have hkd : kd0 st ≠ 0 := by rcases verbal_kd hv with h | h | h <;> rw [h] <;> decide
 obtain ⟨hn, hb, hms⟩ := meas_next hkd hm
 obtain ⟨ht, hl1⟩ := kd0_taken hkd
 obtain ⟨a, h⟩ := look0 l hl en st hs
 have hsn : (next st).1 <:+ l := ht.suf hs
 unfold parse_parser_verb.f
 rw [h]
 simp only [Option.bind_some]
 rw [Ps_next l hl st hs hkd]
 
 have hj : ∀ (body : List Nn) (b : PSt), b.1 <:+ l → parse_parser_verb.j0 EXF (k + 1) a2 body l (Ps l b) en b.2 kind (tx0 st) (⟨#[]⟩ : ByteArray) (⟨#[]⟩ : ByteArray) = some (if kd0 b = 5 then (kind, tx0 st, tx0 b, (⟨#[]⟩ : ByteArray), ([] : List ByteArray), body, Ps l (if advOk (L a2) (tx0 b) = true then next b else (b.1, true)), en, (if advOk (L a2) (tx0 b) = true then next b else (b.1, true)).2) else (kind, tx0 st, (⟨#[]⟩ : ByteArray), (⟨#[]⟩ : ByteArray), ([] : List ByteArray), body, Ps l b, en, b.2)) := by
  intro body b hbs
  obtain ⟨a', h'⟩ := look0 l hl en b hbs
  rw [parse_parser_verb.j0, h']
  simp only [Option.bind_some]
  by_cases h5 : kd0 b = 5
  ·rw [if_pos h5, if_pos h5]
   have hkb : kd0 b ≠ 0 := by rw [h5]; decide
   have hbb := (kd0_pos hkb).1
   have hP := Ps_bounds l hl b
   have hw : wrap64 (Ps l (next b) - 1) = Ps l b := by
    have h1 := Ps_next l hl b hbs hkb
    rw [wrap_id (by omega) (by omega)] at h1
    rw [wrap_id (by omega) (by omega)]; omega
   rw [Ps_next l hl b hbs hkb, hw]
   clear hw
   have hnb : (next b).2 = false := hbb
   unfold advOk
   have hz : (tx0 b).size = (L (tx0 b)).length := L_size _
   cases hc : L (tx0 b) with
   | nil =>
    rw [hc, List.length_nil] at hz
    rw [if_neg (by omega)]
    simp [Ps]
   | cons c r =>
    cases r with
    | nil =>
     rw [hc, List.length_singleton] at hz
     have hcf : strings_Contains.f a2 (tx0 b) = some ((L a2).contains c) := by
      unfold strings_Contains.f
      have hc' : (tx0 b).data.toList = [c] := hc
      rw [hc']
     rw [if_pos (by omega), hcf]
     simp only [Option.bind_some]
     by_cases hcc : (L a2).contains c = true
     ·simp only [hcc, if_true, Bool.not_true, hnb]
     ·rw [Bool.not_eq_true] at hcc
      simp only [hcc, Bool.false_eq_true, if_false, Bool.not_false]
      rfl
    | cons d r =>
     rw [hc, List.length_cons, List.length_cons] at hz
     rw [if_neg (by omega)]
     simp [Ps]
  ·rw [if_neg h5, if_neg h5]
 have h123 : (tx0 st).toList = ([123] : List UInt8) ↔ tx0 st = ⟨#[123]⟩ := by
  rw [toList_L]
  exact ⟨fun h => L_ext h, fun h => by rw [h]⟩
 unfold verbS
 by_cases hbody : tx0 st = ⟨#[123]⟩
 ·rw [if_pos (h123.2 hbody)]
  have he := hE.2 (next st) hsn hn
  have hf := hE.1 (next st) hn
  have hmk := markS_taken 125 (E (next st)).2
  rw [show EXF l (Ps l (next st)) en st.2 = EXF l (Ps l (next st)) en (next st).2 from rfl, he]
  simp only [Option.bind_some]
  rw [mark0 l hl en (E (next st)).2 (hf.taken.suf hsn) 125]
  simp only [Option.bind_some]
  rw [hj _ _ (hmk.suf (hf.taken.suf hsn))]
  simp only [hbody, if_true]
  by_cases h5 : kd0 (markS 125 (E (next st)).2) = 5
  ·simp only [h5, if_true]
  ·simp only [h5, if_false]
 ·rw [if_neg (fun e => hbody (h123.1 e))]
  rw [show parse_parser_verb.j0 EXF (k + 1) a2 ([] : List Nn) l (Ps l (next st)) en st.2 kind (tx0 st) (⟨#[]⟩ : ByteArray) (⟨#[]⟩ : ByteArray) = parse_parser_verb.j0 EXF (k + 1) a2 ([] : List Nn) l (Ps l (next st)) en (next st).2 kind (tx0 st) (⟨#[]⟩ : ByteArray) (⟨#[]⟩ : ByteArray) from rfl, hj _ _ hsn]
  simp only [hbody, if_false]
  by_cases h5 : kd0 (next st) = 5
  ·simp only [h5, if_true]
  ·simp only [h5, if_false]
theorem lit0 (l : List Tt) (hl : l.length ≤ 1000000) (hsz : ∀ t ∈ l, t.f1.size ≤ 1000000) (en : Int) : ∀ (m : List Tt) (acc : List ByteArray) (k : Nat), m <:+ l → acc.length ≤ 100 → m.length + 2300 ≤ k →
  parse_parser_literal.l0 k l (Ps l (m, false)) en false 1 (⟨#[]⟩ : ByteArray) (⟨#[]⟩ : ByteArray) (⟨#[]⟩ : ByteArray) acc = some ([⟨1, ⟨#[]⟩, ⟨#[]⟩, ⟨#[]⟩, (litS acc m).1⟩], Ps l (litS acc m).2, en, (litS acc m).2.2) := by
 intro m
 induction m with
 | nil =>
  intro acc k hs ha hk
  obtain ⟨k, rfl⟩ : ∃ j, k = j + 1 := ⟨k - 1, by omega⟩
  obtain ⟨a, h⟩ := look0 l hl en ([], false) hs
  have h' : parse_parser_look.f l (Ps l ([], false)) en false 0 = _ := h
  rw [parse_parser_literal.l0, h']
  simp only [Option.bind_some]
  rw [if_neg (by decide), Node_eq _ _ _ _ _ _ (by decide) (by decide) k (by omega)]
  rfl
 | cons t r ih =>
  intro acc k hs ha hk
  rw [List.length_cons] at hk
  obtain ⟨k, rfl⟩ : ∃ j, k = j + 1 := ⟨k - 1, by omega⟩
  obtain ⟨a, h⟩ := look0 l hl en (t :: r, false) hs
  have h' : parse_parser_look.f l (Ps l (t :: r, false)) en false 0 = some (t.f0, t.f1, a, Ps l (t :: r, false), en, false) := h
  rw [parse_parser_literal.l0, h']
  simp only [Option.bind_some, litS]
  by_cases h1 : t.f0 = 1
  ·rw [if_pos h1, if_pos h1]
   by_cases h2 : acc.length = 100
   ·rw [if_pos (by omega), if_pos h2, Node_eq _ _ _ _ _ _ (by decide) (by decide) k (by omega)]
    rfl
   ·rw [if_neg (by omega), if_neg h2, h']
    simp only [Option.bind_some]
    have ht : t ∈ l := hs.subset List.mem_cons_self
    rw [number_eq t.f1 (by have := hsz t ht; omega) k (by omega)]
    simp only [Option.bind_some]
    have hb : acc.length < 8796093022208 := Nat.lt_of_le_of_lt ha (by decide)
    have hp := Ps_next l hl (t :: r, false) hs (by show t.f0 ≠ 0; rw [h1]; decide)
    rw [if_pos hb, hp]
    exact ih (acc ++ [numS t.f1]) k ((List.suffix_cons t r).trans hs) (by rw [List.length_append, List.length_singleton]; omega) (by omega)
  ·rw [if_neg h1, if_neg h1, Node_eq _ _ _ _ _ _ (by decide) (by decide) k (by omega)]
   rfl
theorem atom0 (l : List Tt) (hl : l.length ≤ 1000000) (hsz : ∀ t ∈ l, t.f1.size ≤ 1000000) (en : Int) (EXF : EX_F) (E : ES) (n : Nat) (hE : EOk l en EXF E n) (k : Nat) (hk : l.length + 2400 ≤ k) (st : PSt) (hs : st.1 <:+ l) (hm : meas st < n + 1) :
  parse_parser_atom.f EXF k l (Ps l st) en st.2 = some ((atomS E st).1, Ps l (atomS E st).2, en, (atomS E st).2.2) := by
 obtain ⟨a, h⟩ := look0 l hl en st hs
 unfold parse_parser_atom.f
 rw [h]
 simp only [Option.bind_some]
 unfold atomS
 by_cases h1 : kd0 st = 1
 ·rw [if_pos h1, if_pos h1]
  have hb := (kd0_pos (show kd0 st ≠ 0 by rw [h1]; decide)).1
  obtain ⟨m, b⟩ := st
  simp only at hb
  subst hb
  unfold parse_parser_literal.f
  rw [show (m, false).2 = false from rfl, lit0 l hl hsz en m [] k hs (by simp) (by have := hs.length_le; simp only at this; omega)]
  rfl
 ·rw [if_neg h1, if_neg h1]
  by_cases h2 : kd0 st = 2
  ·rw [if_pos h2, if_pos h2, Node_eq _ _ _ _ _ _ (by decide) (by decide) k (by omega)]
   simp only [Option.bind_some]
   rw [Ps_next l hl st hs (by rw [h2]; decide)]
   rfl
  ·rw [if_neg h2, if_neg h2, mark0 l hl en st hs 40]
   simp only [Option.bind_some]
   by_cases h3 : (markS 40 st).2 = true
   ·rw [if_pos h3, if_pos h3]
   ·rw [if_neg h3, if_neg h3]
    have hM : isM 40 st = true := by
     unfold markS at h3
     by_cases h : isM 40 st = true
     ·exact h
     ·rw [if_neg h] at h3; exact absurd rfl h3
    have hkd : kd0 st ≠ 0 := by rw [isM_kd hM]; decide
    obtain ⟨hn, hb, hms⟩ := meas_next hkd hm
    have he : markS 40 st = next st := by unfold markS; rw [if_pos hM]
    obtain ⟨ht, hl1⟩ := kd0_taken hkd
    rw [he]
    have hf := hE.1 (next st) hn
    rw [hE.2 (next st) (ht.suf hs) hn]
    simp only [Option.bind_some]
    rw [mark0 l hl en (E (next st)).2 (hf.taken.suf (ht.suf hs)) 41]
    rfl
theorem idx0 (l : List Tt) (hl : l.length ≤ 1000000) (en : Int) (EXF : EX_F) (E : ES) (n : Nat) (hE : EOk l en EXF E n) : ∀ (m : Nat) (x : List Nn) (st : PSt) (k : Nat), st.1 <:+ l → meas st < n + 1 → st.1.length ≤ m → x.length + st.1.length ≤ l.length → m + 2300 ≤ k →
  parse_parser_term.l0 EXF k x l (Ps l st) en st.2 = some ((idxS E m x st).1, Ps l (idxS E m x st).2, en, (idxS E m x st).2.2) := by
 intro m
 induction m with
 | zero =>
  intro x st k hs hm hmm hx hk
  obtain ⟨k, rfl⟩ : ∃ j, k = j + 1 := ⟨k - 1, by omega⟩
  have : isM 91 st = false := by
   rw [← Bool.not_eq_true]
   intro h
   have := (kd0_taken (show kd0 st ≠ 0 by rw [isM_kd h]; decide)).2
   omega
  rw [parse_parser_term.l0, is0 l hl en st hs 91, this]
  rfl
 | succ m ih =>
  intro x st k hs hm hmm hx hk
  obtain ⟨k, rfl⟩ : ∃ j, k = j + 1 := ⟨k - 1, by omega⟩
  rw [parse_parser_term.l0, is0 l hl en st hs 91]
  simp only [Option.bind_some, idxS]
  by_cases h : isM 91 st = true
  ·rw [if_pos h, if_pos h]
   have hkd : kd0 st ≠ 0 := by rw [isM_kd h]; decide
   obtain ⟨hn, hb, hms⟩ := meas_next hkd hm
   obtain ⟨ht, hl1⟩ := kd0_taken hkd
   have hf := hE.1 (next st) hn
   have hmk := markS_taken 93 (E (next st)).2
   have hll := hmk.len
   have hfl := hf.2.1
   rw [Ps_next l hl st hs hkd, show EXF l (Ps l (next st)) en st.2 = EXF l (Ps l (next st)) en (next st).2 from rfl, hE.2 (next st) (ht.suf hs) hn]
   simp only [Option.bind_some]
   rw [mark0 l hl en (E (next st)).2 (hf.taken.suf (ht.suf hs)) 93]
   simp only [Option.bind_some]
   have hlens : lens [x, (E (next st)).1] ≤ 1000000 := by
    simp only [lens, List.map_cons, List.map_nil, List.sum_cons, List.sum_nil]
    omega
   rw [Node_eq _ _ _ _ _ _ (by simp only [List.length_cons, List.length_nil]; omega) hlens k (by omega)]
   simp only [Option.bind_some]
   have hfl2 : [x, (E (next st)).1].flatten = x ++ (E (next st)).1 := by simp
   rw [hfl2]
   have := ih (nd0 8 :: (x ++ (E (next st)).1)) (markS 93 (E (next st)).2) k (hmk.suf (hf.taken.suf (ht.suf hs))) (by have := meas_taken (hf.taken.trans hmk) hn; omega) (by omega) (by rw [List.length_cons, List.length_append]; omega) (by omega)
   exact this
  ·rw [if_neg h, if_neg h]
theorem term0 (l : List Tt) (hl : l.length ≤ 1000000) (hsz : ∀ t ∈ l, t.f1.size ≤ 1000000) (en : Int) (EXF : EX_F) (E : ES) (n : Nat) (hE : EOk l en EXF E n) (k : Nat) (hk : l.length + 2400 ≤ k) (st : PSt) (hs : st.1 <:+ l) (hm : meas st < n + 1) :
  parse_parser_term.f EXF k l (Ps l st) en st.2 = some ((termS E st).1, Ps l (termS E st).2, en, (termS E st).2.2) := by
 unfold parse_parser_term.f
 rw [atom0 l hl hsz en EXF E n hE k hk st hs hm]
 simp only [Option.bind_some]
 have ha := (atomS_fine E n hE.1 st hm).1
 have h1 := hs.length_le
 have h2 := ha.taken.len
 have h3 := ha.2.1
 exact idx0 l hl en EXF E n hE (atomS E st).2.1.length (atomS E st).1 (atomS E st).2 k (ha.taken.suf hs) (meas_taken ha.taken hm) (Nat.le_refl _) (by omega) (by omega)
theorem exprB0 (l : List Tt) (hl : l.length ≤ 1000000) (hsz : ∀ t ∈ l, t.f1.size ≤ 1000000) (en : Int) (EXF : EX_F) (E : ES) (n : Nat) (hE : EOk l en EXF E n) (k : Nat) (hk : l.length + 2400 ≤ k) (st : PSt) (hs : st.1 <:+ l) (hm : meas st < n + 1) :
  parse_parser_exprB.f EXF k l (Ps l st) en st.2 = some ((exprB E st).1, Ps l (exprB E st).2, en, (exprB E st).2.2) := by
 unfold parse_parser_exprB.f exprB
 rw [verbs0 l hl en st hs]
 simp only [Option.bind_some]
 by_cases h1 : verbal st = true
 ·rw [if_pos h1, if_pos h1, verb0 l hl en EXF E n hE k (by omega) st hs h1 hm 3 _]
  simp only [Option.bind_some]
  obtain ⟨v1, v2, v3⟩ := verbS_fine E n hE.1 3 oneB st h1 hm
  have e1 : L (⟨#[39, 47, 92, 96]⟩ : ByteArray) = oneB := rfl
  have hf := hE.1 _ v3
  rw [e1, hE.2 _ (v1.suf hs) v3]
  simp only [Option.bind_some]
  have hlen := hs.length_le
  have hlens : lens [(verbS E 3 oneB st).2.1, (E (verbS E 3 oneB st).2.2).1] ≤ 1000000 := by
   simp only [lens, List.map_cons, List.map_nil, List.sum_cons, List.sum_nil]
   have := hf.2.1
   omega
  rw [Node_eq _ _ _ _ _ _ (by simp only [List.length_cons, List.length_nil]; omega) hlens k (by omega)]
  simp only [Option.bind_some, exprV, List.nil_append]
  have hfl2 : [(verbS E 3 oneB st).2.1, (E (verbS E 3 oneB st).2.2).1].flatten = (verbS E 3 oneB st).2.1 ++ (E (verbS E 3 oneB st).2.2).1 := by simp
  rw [hfl2]
 ·rw [if_neg h1, if_neg h1, term0 l hl hsz en EXF E n hE k hk st hs hm]
  simp only [Option.bind_some]
  have ht := termS_fine E n hE.1 st hm
  rw [verbs0 l hl en (termS E st).2 (ht.taken.suf hs)]
  simp only [Option.bind_some]
  by_cases h2 : verbal (termS E st).2 = true
  ·rw [if_pos h2, if_pos h2, verb0 l hl en EXF E n hE k (by omega) (termS E st).2 (ht.taken.suf hs) h2 (meas_taken ht.taken hm) 4 _]
   simp only [Option.bind_some]
   obtain ⟨v1, v2, v3⟩ := verbS_fine E n hE.1 4 twoB (termS E st).2 h2 (meas_taken ht.taken hm)
   have e1 : L (⟨#[39, 46]⟩ : ByteArray) = twoB := rfl
   have hf := hE.1 _ v3
   rw [e1, hE.2 _ (v1.suf (ht.taken.suf hs)) v3]
   simp only [Option.bind_some]
   have hlen := hs.length_le
   have hlens : lens [(verbS E 4 twoB (termS E st).2).2.1, (termS E st).1, (E (verbS E 4 twoB (termS E st).2).2.2).1] ≤ 1000000 := by
    simp only [lens, List.map_cons, List.map_nil, List.sum_cons, List.sum_nil]
    have := hf.2.1
    have := ht.2.1
    omega
   rw [Node_eq _ _ _ _ _ _ (by simp only [List.length_cons, List.length_nil]; omega) hlens k (by omega)]
   simp only [Option.bind_some, exprV]
   have hfl2 : [(verbS E 4 twoB (termS E st).2).2.1, (termS E st).1, (E (verbS E 4 twoB (termS E st).2).2.2).1].flatten = (verbS E 4 twoB (termS E st).2).2.1 ++ ((termS E st).1 ++ (E (verbS E 4 twoB (termS E st).2).2.2).1) := by simp
   rw [hfl2]
  ·rw [if_neg h2, if_neg h2]
end Go.Proofs.Ytdelccahgchadaa
end
section
namespace Go.Proofs.Ytdelccahgchadaa
open Go.RowKit Go.Lib Go.Proofs.Ytdelccahgchadaa.P Go.Proofs.YtdelccahgchadaaW.PrintWords Go.Proofs.YtdelccahgchadaaW.PrintMore
set_option linter.unusedVariables false
def SmallT (l : List Tt) : Prop := l.length ≤ 1000000 ∧ ∀ t ∈ l, t.f1.size ≤ 1000000
instance (l : List Tt) : Decidable (SmallT l) := inferInstanceAs (Decidable (_ ∧ _))
def EFK (K : Nat) : EX_F := fun l at_ en bad =>
 if SmallT l ∧ 0 ≤ at_ ∧ at_ ≤ (l.length : Int) ∧ meas (l.drop at_.toNat, bad) < K then
  some ((exprS K (l.drop at_.toNat, bad)).1, Ps l (exprS K (l.drop at_.toNat, bad)).2, en, (exprS K (l.drop at_.toNat, bad)).2.2)
 else none
theorem Ps_suffix (l : List Tt) (st : PSt) (hs : st.1 <:+ l) : (l.drop (Ps l st).toNat, st.2) = st := by
 unfold Ps
 rw [Int.toNat_natCast, (suffix_drop hs).1]
theorem EFK_ok (K : Nat) (l : List Tt) (hl : SmallT l) (en : Int) : EOk l en (EFK K) (exprS K) K := by
 refine ⟨exprS_good K, fun st hs hm => ?_⟩
 have hb := Ps_bounds l hl.1 st
 have hP : Ps l st ≤ (l.length : Int) := by unfold Ps; omega
 unfold EFK
 rw [Ps_suffix l st hs, if_pos ⟨hl, hb.1, hP, hm⟩]
theorem EFK_calls : ∀ K, EX_C (EFK K) := by
 intro K
 induction K with
 | zero =>
  refine ⟨fun g s0_0 s0_1 s0_2 s0_3 r1 r2 r3 r4 w0 w hI hB h => ?_⟩
  unfold EFK at h
  rw [if_neg (fun e => Nat.not_lt_zero _ e.2.2.2)] at h
  cases h
 | succ K ih =>
  refine ⟨fun g s0_0 s0_1 s0_2 s0_3 r1 r2 r3 r4 w0 w hI hB h => ?_⟩
  have hc : SmallT s0_0 ∧ 0 ≤ s0_1 ∧ s0_1 ≤ (s0_0.length : Int) ∧ meas (s0_0.drop s0_1.toNat, s0_3) < K + 1 := by
   unfold EFK at h
   by_cases hc : SmallT s0_0 ∧ 0 ≤ s0_1 ∧ s0_1 ≤ (s0_0.length : Int) ∧ meas (s0_0.drop s0_1.toNat, s0_3) < K + 1
   ·exact hc
   ·rw [if_neg hc] at h; cases h
  refine parse_parser_exprB.calls (EFK K) ih (s0_0.length + 2400) g s0_0 s0_1 s0_2 s0_3 r1 r2 r3 r4 w0 w hI hB ?_
  have hs : (s0_0.drop s0_1.toNat, s0_3).1 <:+ s0_0 := List.drop_suffix _ _
  have hP : Ps s0_0 (s0_0.drop s0_1.toNat, s0_3) = s0_1 := by
   unfold Ps
   simp only [List.length_drop]
   omega
  have hb := exprB0 s0_0 hc.1.1 hc.1.2 s0_2 (EFK K) (exprS K) K (EFK_ok K s0_0 hc.1 s0_2) (s0_0.length + 2400) (Nat.le_refl _) (s0_0.drop s0_1.toNat, s0_3) hs hc.2.2.2
  rw [hP] at hb
  rw [hb]
  unfold EFK at h
  rw [if_pos hc] at h
  exact h
end Go.Proofs.Ytdelccahgchadaa
namespace Go.Proofs.Ytdelccahgchadaa.P
open Go.RowKit Go.Proofs.Ytdelccahgchadaa Go.Proofs.YtdelccahgchadaaW.PrintWords Go.Proofs.YtdelccahgchadaaW.PrintMore
def parse_parser_expr.f (s0_0 : List S71) (s0_1 s0_2 : Int) (s0_3 : Bool) : Option (List S25 × Int × Int × Bool) := EFK (s0_0.length + 1) s0_0 s0_1 s0_2 s0_3
theorem parse_parser_expr.callsC : EX_C parse_parser_expr.f := ⟨fun g s0_0 s0_1 s0_2 s0_3 r1 r2 r3 r4 w0 w hI hB h => (EFK_calls (s0_0.length + 1)).out g s0_0 s0_1 s0_2 s0_3 r1 r2 r3 r4 w0 w hI hB h⟩
theorem parse_parser_expr.calls (g : Nat) (s0_0 : List S71) (s0_1 s0_2 : Int) (s0_3 : Bool) (r1 : List S25) (r2 r3 : Int) (r4 : Bool) (w0 w : World) (hI : IsS83 w0 w g s0_0 s0_1 s0_2 s0_3) (hB : Below w0.heap.size w0 w) (h : parse_parser_expr.f s0_0 s0_1 s0_2 s0_3 = some (r1, r2, r3, r4)) :
  Calls Try.prog 93 #[.pointer (some ⟨g, 0, none⟩)] w fun e w' => ∃ v0_ : Value, e = .returned (v0_) ∧ Kd.N k25 25 w' w.heap.size (fun k_ => (w.heap.size ≤ k_)) v0_ r1 ∧ IsS83 w0 w' g s0_0 r2 r3 r4 ∧ Below w0.heap.size w0 w' ∧ KeepBut w w' g none :=
 parse_parser_expr.callsC.out g s0_0 s0_1 s0_2 s0_3 r1 r2 r3 r4 w0 w hI hB h
end Go.Proofs.Ytdelccahgchadaa.P
end
section
namespace Go.Proofs.Ytdelccahgchadaa.P
open Go.RowKit Go.Proofs.YtdelccahgchadaaW.PrintWords Go.Proofs.YtdelccahgchadaaW.PrintLast Go.Proofs.YtdelccahgchadaaW.PrintMore
attribute [local go_sem] max2_int min2_int max_two min_two max_three min_three max_four min_four   
set_option linter.unusedVariables false
set_option linter.unusedSimpArgs false
def parse_parser_amend.f (k : Nat) (s0_0 : List (S71)) (s0_1 : Int) (s0_2 : Int) (s0_3 : Bool) : Option ((List (S25)) × Int × Int × Bool) := (parse_parser_look.f s0_0 s0_1 s0_2 s0_3 0).bind fun bt439 => ((parse_parser_expr.f s0_0 (wrap64 (bt439.2.2.2.1 + 2)) bt439.2.2.2.2.1 bt439.2.2.2.2.2).bind fun bt446 => ((parse_parser_mark.f s0_0 bt446.2.1 bt446.2.2.1 bt446.2.2.2 (⟨#[93]⟩ : ByteArray)).bind fun bt452 => ((parse_parser_is.f s0_0 bt452.1 bt452.2.1 bt452.2.2 0 (⟨#[58]⟩ : ByteArray)).bind fun bt455 => (if bt455.1 = true then ((parse_parser_expr.f s0_0 (wrap64 (bt455.2.1 + 1)) bt455.2.2.1 bt455.2.2.2).bind fun bt459 => ((tree_Node.f k 6 (⟨#[]⟩ : ByteArray) (⟨#[]⟩ : ByteArray) bt439.2.1 ([] : List ByteArray) (([bt446.1, bt459.1] : List (List (S25))))).bind fun t468 => (some (t468, bt459.2.1, bt459.2.2.1, bt459.2.2.2)))) else (some (([] : List (S25)), 0, bt455.2.2.1, false))))))
theorem parse_parser_amend.mono : ∀ a0 a1 a2 a3 k, LeO (parse_parser_amend.f k a0 a1 a2 a3) (parse_parser_amend.f (k + 1) a0 a1 a2 a3) := by
 intro a0 a1 a2 a3 k
 unfold parse_parser_amend.f
 with_reducible repeat' first
   | exact tree_Node.mono _ _ _ _ _ _ _
   | exact LeO.refl _
   | exact LeO.none _
   | refine LeO.ite ?_ ?_
   | refine LeO.bind ?_ (fun _ => ?_)
theorem tree_Node_ne {k : Nat} {a : Int} {b c d : ByteArray} {e : List ByteArray} {l : List (List (S25))} {r : List (S25)} (h : Aside0 (tree_Node.f k a b c d e l = some r)) : r ≠ [] := by
 have h := h.out
 unfold tree_Node.f at h
 simp only [Option.bind_some] at h
 obtain ⟨t, _, h⟩ := Option.bind_eq_some_iff.mp h
 split at h
 ·injection h with h
  rw [← h]
  exact fun e => by cases e
 ·cases h
set_option maxHeartbeats 8000000 in
set_option maxRecDepth 100000 in
theorem parse_parser_amend.calls (k : Nat) (g : Nat) (s0_0 : List (S71)) (s0_1 : Int) (s0_2 : Int) (s0_3 : Bool) (r1 : List (S25)) (r2 : Int) (r3 : Int) (r4 : Bool) (w0 w : World) (hI : IsS83 w0 w g s0_0 s0_1 s0_2 s0_3) (hB : Below w0.heap.size w0 w) (h : parse_parser_amend.f k s0_0 s0_1 s0_2 s0_3 = some (r1, r2, r3, r4)) :
  Calls Try.prog 95 #[.pointer (some ⟨g, 0, none⟩)] w fun e w' => ∃ v0_ : Value, e = .returned (v0_) ∧ (r1 = [] → v0_ = .slice none 0 0) ∧ Kd.N k25 25 w' w.heap.size (fun k_ => (w.heap.size ≤ k_)) v0_ r1 ∧ IsS83 w0 w' g s0_0 r2 r3 r4 ∧ Below w0.heap.size w0 w' ∧ KeepBut w w' g none := by
 have hu25 := Try.underlying25
 have HI0 := am hI
 have HK := am (KeepBut.refl w g none)
 have HL := am hB.size
 clear hI
 have HW0 := am hB.size
 have HB := am hB
 clear hB
 unfold parse_parser_amend.f at h
 have H := h
 clear h
 obtain ⟨⟨t439, t440, t441, t442, t443, t444⟩, A2, H⟩ := bO H
 try dsimp only at H
 obtain ⟨⟨t446, t449, t450, t451⟩, A3, H⟩ := bO H
 try dsimp only at H
 obtain ⟨⟨t452, t453, t454⟩, A4, H⟩ := bO H
 try dsimp only at H
 obtain ⟨⟨t455, t456, t457, t458⟩, A5, H⟩ := bO H
 try dsimp only at H
 by_cases c6 : t455 = true
 ·subst c6
  rw [if_pos rfl] at H
  obtain ⟨⟨t459, t462, t463, t464⟩, A7, H⟩ := bO H
  try dsimp only at H
  obtain ⟨y465, hy465⟩ : ∃ y_ : List (List (S25)), y_ = (([t446, t459] : List (List (S25)))) := ⟨_, rfl⟩
  replace H : ((tree_Node.f k 6 (⟨#[]⟩ : ByteArray) (⟨#[]⟩ : ByteArray) t440 ([] : List ByteArray) y465).bind fun t468 => (some (t468, t462, t463, t464))) = some (r1, r2, r3, r4) := by first | (rw [hy465]; with_reducible exact H) | (have H2_ := (Option.bind_some _ _).symm.trans H; rw [hy465]; with_reducible exact H2_) | (have H2_ := (Option.bind_some _ _).symm.trans H; with_reducible exact H2_) | with_reducible exact H | (rw [hy465]; exact H) | exact H
  have Ny465 := am hy465
  clear hy465
  obtain ⟨t468, A8, H⟩ := bO H
  try dsimp only at H
  simp only [Option.some.injEq, Prod.mk.injEq] at H
  obtain ⟨rfl, rfl, rfl, rfl⟩ := H
  go_enter Try.func95, Try.ntmps95
  try go_wp2_with (first | ((with_reducible refine gC 67 rfl ?_); refine gL (some 6) Try.func67 #[.pointer (some ⟨g, 0, none⟩), .int .i64 0] ?_; (with_reducible refine (parse_parser_look.calls _ _ _ _ _ _ _ _ _ _ _ _ w0 _ ?side1 ?side2 A2.out).mono ?_); (case side1 => exact yI); (case side2 => exact (kLI HB)); rintro e w9 ⟨rfl, hi, hb, hk⟩; refine ⟨_, rfl, ?_⟩; replace HK := am (KeepBut.trans (kK HK) hk (.inl rfl)); replace HB := am hb; replace HI0 := am hi; (try clear hi hb hk)) | ((with_reducible refine gD 3 rfl ?_); refine bx 3 #[.int .i64 0, .string (⟨#[]⟩ : ByteArray), .string (⟨#[]⟩ : ByteArray), .string (⟨#[]⟩ : ByteArray), .slice none 0 0] 25 ?_; intro gb445 hg w10 hbox hb; replace HB := am (below_step (kLI HB) hb); have BK445 := am hbox; have GW445 := am ((by rw [hg]; exact (keep_size (w := w) (g := g) (row := none) (kK HK)) : w.heap.size ≤ gb445)); have GE445 := am ((Nat.le_trans HW0.out (by rw [hg]; exact (keep_size (w := w) (g := g) (row := none) (kK HK)) : w.heap.size ≤ gb445) : w0.heap.size ≤ gb445)); replace HK := am (KeepBut.trans (kK HK) (KeepBut.of_below hb g none) (.inl rfl)); have NB0_445 := am ((by rw [hg]; exact Nat.ne_of_lt (IsS83.lt (show IsS83 w0 _ g s0_0 t442 t443 t444 from yI)) : g ≠ gb445)); have NB445_0 := am ((by rw [hg]; exact Nat.ne_of_gt (IsS83.lt (show IsS83 w0 _ g s0_0 t442 t443 t444 from yI)) : gb445 ≠ g)); replace HI0 := am (IsS83.below yI hb); clear hb hbox hg; have hnb11 := NB445_0.out; have hnc11 := NB0_445.out; obtain ⟨hcz12_0, hcz12_1, hcz12_2, hcz12_3, hcz12_4, hfz12_0, hfz12_1, hfz12_2, hfz12_3, hfz12_4⟩ := bk5 BK445.out; obtain ⟨ASz13_0, cSz13_0, HSz13_0, hcz13_0, hcz13_1, hcz13_2, hcz13_3, hfz13_1, hfz13_2, hfz13_3⟩ := IsS83.look HI0.out) | ((with_reducible refine gC 93 rfl ?_); refine gL (some 17) Try.func93 #[.pointer (some ⟨g, 0, none⟩)] ?_; (with_reducible refine (parse_parser_expr.calls _ _ _ _ _ _ _ _ _ w0 _ ?side1 ?side2 A3.out).mono ?_); (case side1 => exact yI); (case side2 => exact (kLI HB)); rintro e w14 ⟨v447, rfl, ho0, hi, hb, hk⟩; refine ⟨_, rfl, ?_⟩; have HO448 := am (Kd.N_lower (Kd.N_mono (ok' := fun k_ => (w.heap.size ≤ k_) ∧ k_ ≠ gb445 ∧ k_ ≠ g) ho0 (fun k_ hk_ => ⟨(Nat.le_trans (keep_size (w := w) (g := g) (row := none) (kK HK)) hk_), (fB BK445 k_ hk_), (IsS83.fresh yI k_ hk_)⟩)) (keep_size (w := w) (g := g) (row := none) (kK HK))); replace BK445 := am (KeepBut.blk hk (g' := gb445) (o := .cells #[.int .i64 6, .string (⟨#[]⟩ : ByteArray), .string (⟨#[]⟩ : ByteArray), .string t440, .slice none 0 0] 25 (0, 0)) (kM BK445) NB445_0.out (by simp)); replace HK := am (KeepBut.trans (kK HK) hk (.inl rfl)); replace HB := am hb; replace HI0 := am hi; (try clear ho0 hi hb hk)) | ((with_reducible refine gC 94 rfl ?_); refine gL (some 19) Try.func94 #[.pointer (some ⟨g, 0, none⟩), .string (⟨#[93]⟩ : ByteArray)] ?_; (with_reducible refine (parse_parser_mark.calls _ _ _ _ _ _ _ _ _ w0 _ ?side1 ?side2 A4.out).mono ?_); (case side1 => exact yI); (case side2 => exact (kLI HB)); rintro e w15 ⟨rfl, hi, hb, hk⟩; refine ⟨_, rfl, ?_⟩; replace BK445 := am (KeepBut.blk hk (kB BK445) NB445_0.out (by simp)); replace HO448 := am (Kd.N_mono (Kd.N_keep (Kd.N_mono (ok := fun k_ => (((w.heap.size ≤ k_)) ∧ (k_ ≠ gb445 ∧ k_ ≠ g))) (nB HO448) (fun k_ hk_ => (⟨hk_, hk_.2.2⟩ : _ ∧ k_ ≠ g))) hk (fun _ h => h.2)) (fun _ h => h.1)); replace HK := am (KeepBut.trans (kK HK) hk (.inl rfl)); replace HB := am hb; replace HI0 := am hi; (try clear hi hb hk)) | ((with_reducible refine gC 92 rfl ?_); refine gL (some 21) Try.func92 #[.pointer (some ⟨g, 0, none⟩), .int .i64 0, .string (⟨#[58]⟩ : ByteArray)] ?_; (with_reducible refine (parse_parser_is.calls _ _ _ _ _ _ _ _ _ _ _ w0 _ ?side1 ?side2 A5.out).mono ?_); (case side1 => exact yI); (case side2 => exact (kLI HB)); rintro e w16 ⟨rfl, hi, hb, hk⟩; refine ⟨_, rfl, ?_⟩; replace BK445 := am (KeepBut.blk hk (kB BK445) NB445_0.out (by simp)); replace HO448 := am (Kd.N_mono (Kd.N_keep (Kd.N_mono (ok := fun k_ => (((w.heap.size ≤ k_)) ∧ (k_ ≠ gb445 ∧ k_ ≠ g))) (nB HO448) (fun k_ hk_ => (⟨hk_, hk_.2.2⟩ : _ ∧ k_ ≠ g))) hk (fun _ h => h.2)) (fun _ h => h.1)); replace HK := am (KeepBut.trans (kK HK) hk (.inl rfl)); replace HB := am hb; replace HI0 := am hi; (try clear hi hb hk); obtain ⟨ASz17_0, cSz17_0, HSz17_0, hcz17_0, hcz17_1, hcz17_2, hcz17_3, hfz17_1, hfz17_2, hfz17_3⟩ := IsS83.look HI0.out))
  have n0_ : Aside0 (Kd.N k25 25 (w16.setCell ⟨g, 1, none⟩ (.int .i64 (wrap64 (t456 + 1)))) w.heap.size (fun k_ => (w.heap.size ≤ k_) ∧ k_ ≠ gb445 ∧ k_ ≠ g) v447 t446) := ⟨by (with_reducible repeat (first | apply Kd.N_alloc | apply Kd.N_drewN | apply Kd.N_drew)); exact Kd.N_mono (Kd.N_far (p := ⟨g, 1, none⟩) (Kd.N_mono HO448.out (fun k_ hk => (⟨hk, hk.2.2⟩ : _ ∧ k_ ≠ g))) (fun _ hk => hk.2) (.int .i64 (wrap64 (t456 + 1)))) (fun _ hk => ⟨hk.1.1, ⟨hk.1.2.1, hk.1.2.2⟩⟩)⟩
  have n1_ : Aside0 ((w16.setCell ⟨g, 1, none⟩ (.int .i64 (wrap64 (t456 + 1)))).heap[gb445]? = some (.cells #[.int .i64 6, .string (⟨#[]⟩ : ByteArray), .string (⟨#[]⟩ : ByteArray), .string t440, .slice none 0 0] 25 (0, 0))) := ⟨kM BK445⟩
  have n2_ : Aside0 (IsS83 w0 (w16.setCell ⟨g, 1, none⟩ (.int .i64 (wrap64 (t456 + 1)))) g s0_0 (wrap64 (t456 + 1)) t457 t458) := ⟨yI⟩
  have n3_ : Aside0 (KeepBut w (w16.setCell ⟨g, 1, none⟩ (.int .i64 (wrap64 (t456 + 1)))) g none) := ⟨(kK HK)⟩
  have n4_ : Aside0 (Below w0.heap.size w0 (w16.setCell ⟨g, 1, none⟩ (.int .i64 (wrap64 (t456 + 1))))) := ⟨(kLI HB)⟩
  (try clear HO448)
  (try clear BK445)
  (try clear HI0)
  (try clear HK)
  (try clear HB)
  generalize (w16.setCell ⟨g, 1, none⟩ (.int .i64 (wrap64 (t456 + 1)))) = w18 at n0_ n1_ n2_ n3_ n4_ ⊢
  have HO448 := n0_
  have BK445 := n1_
  have HI0 := n2_
  have HK := n3_
  have HB := n4_
  clear n0_ n1_ n2_ n3_ n4_
  replace HO448 := am (Kd.N_drew HO448.out)
  replace BK445 := am (bD BK445.out)
  replace HI0 := am (IsS83.drew HI0.out)
  replace HK := am (keep_drew HK.out)
  replace HB := am (lD HB.out)
  refine start_ (n := 7) (S := fun w' => w'.cell? ⟨gb445, 0, none⟩ = some (.int .i64 6) ∧ w'.cell? ⟨gb445, 1, none⟩ = some (.string (⟨#[]⟩ : ByteArray)) ∧ w'.cell? ⟨gb445, 2, none⟩ = some (.string (⟨#[]⟩ : ByteArray)) ∧ w'.cell? ⟨gb445, 3, none⟩ = some (.string t440) ∧ w'.cell? ⟨gb445, 4, none⟩ = some (.slice none 0 0)) (ds := []) #[false, false, false, false, false, false, false] (by kernel_rfl) rfl rfl ⟨(blk_cell BK445.out 0).trans rfl, (blk_cell BK445.out 1).trans rfl, (blk_cell BK445.out 2).trans rfl, (blk_cell BK445.out 3).trans rfl, (blk_cell BK445.out 4).trans rfl⟩ (fun hHeld => ?_)
  generalize w18.drew = w19 at HO448 BK445 HI0 HK HB hHeld ⊢
  refine pure_ (i := 1) (N := some 37) (v := ?_) (a' := ?_) #[false, true, false, false, false, false, false] rfl rfl (by kernel_rfl) (fun _ _ _ h => h) (Or.inl ⟨by rfl, ?_⟩) ?_ ?_
  rotate_left
  ·intro w'
   go_simp
   with_reducible rfl
  rotate_left
  ·simp only [Act.put, zT, z0, zS, i64_w, i32_w]
   rfl
  refine pure_ (i := 2) (N := some 38) (v := ?_) (a' := ?_) #[false, true, true, false, false, false, false] rfl rfl (by kernel_rfl) (fun _ _ _ h => h) (Or.inl ⟨by rfl, ?_⟩) ?_ ?_
  rotate_left
  ·intro w'
   go_simp
   with_reducible rfl
  rotate_left
  ·simp only [Act.put, zT, z0, zS, i64_w, i32_w]
   rfl
  refine take_ (i := 0) (N := some 36) (v := ?_) (a' := ?_) #[true, true, true, false, false, false, false] rfl rfl (by kernel_rfl) (fun _ _ _ h => h) (Or.inl ⟨by rfl, ?_⟩) hHeld ?_ ?_
  rotate_left
  ·rintro w' ⟨s0, s1, s2, s3, s4⟩
   go_simp
   with_reducible rfl
  rotate_left
  ·simp only [Act.put, zT, z0, zS, i64_w, i32_w]
   rfl
  refine one_ (i := 3) (N := some 39) #[true, true, true, true, false, false, false] rfl rfl (by kernel_rfl) (by decide) (fun K hK => ?_)
  refine goes_ Try.func93 (by kernel_rfl) rfl #[.pointer (some ⟨g, 0, none⟩)] (by rfl) rfl rfl yA ?_
  with_reducible refine (parse_parser_expr.calls _ _ _ _ _ _ _ _ _ w0 _ ?side1 ?side2 A7.out).mono ?_
  (case side1 => exact yI)
  (case side2 => exact (kLI HB))
  rintro e w20 ⟨v460, rfl, ho0, hi, hb, hk⟩
  refine ⟨_, rfl, ?_⟩
  have HO461 := am (Kd.N_lower (Kd.N_mono (ok' := fun k_ => (w.heap.size ≤ k_) ∧ some k_ ≠ (v447 : Value).ownBlock ∧ k_ ≠ gb445 ∧ k_ ≠ g) ho0 (fun k_ hk_ => ⟨(Nat.le_trans (keep_size (w := w) (g := g) (row := none) (kK HK)) hk_), (Kd.fresh' (Kd.N_lt (nB HO448)) k_ hk_), (fB BK445 k_ hk_), (IsS83.fresh yI k_ hk_)⟩)) (keep_size (w := w) (g := g) (row := none) (kK HK)))
  replace BK445 := am (KeepBut.blk hk (kB BK445) NB445_0.out (by simp))
  replace HO448 := am (Kd.N_mono (Kd.N_told (Kd.N_oldK (Kd.N_mono (ok := fun k_ => (((w.heap.size ≤ k_)) ∧ (k_ ≠ gb445 ∧ k_ ≠ g))) (nB HO448) (fun k_ hk_ => (⟨hk_, hk_.2.2⟩ : _ ∧ k_ ≠ g))) hk) (Kd.N_base ho0)) (fun _ h_ => h_.1))
  replace HK := am (KeepBut.trans (kK HK) hk (.inl rfl))
  replace HB := am hb
  replace HI0 := am hi
  (try clear hb)
  (try clear hb2)
  (try clear hk)
  (try clear hi)
  (try clear ho0)
  obtain ⟨Ao21, co21, eo21⟩ := Kd.N_slice HO448.out
  (first | subst eo21 | (injection eo21 with f1_ f2_ f3_; have f4_ := f1_.symm; have f5_ := f3_.symm; clear f1_ f2_ f3_; subst f4_; subst f5_))
  obtain ⟨Ao22, co22, eo22⟩ := Kd.N_slice HO461.out
  (first | subst eo22 | (injection eo22 with f1_ f2_ f3_; have f4_ := f1_.symm; have f5_ := f3_.symm; clear f1_ f2_ f3_; subst f4_; subst f5_))
  refine hK.out _ _ ⟨(blk_cell BK445.out 0).trans rfl, (blk_cell BK445.out 1).trans rfl, (blk_cell BK445.out 2).trans rfl, (blk_cell BK445.out 3).trans rfl, (blk_cell BK445.out 4).trans rfl⟩ (fun hHeld => ?_)
  clear hK K
  refine norm_ (a' := ?_) ?_ ?_
  rotate_left
  ·show Act.put _ (some 39) _ = _
   simp only [Act.put, zT, z0, zS, i64_w, i32_w]
   rfl
  refine one_ (i := 4) (N := some 40) #[true, true, true, true, true, false, false] rfl rfl (by kernel_rfl) (by decide) (fun K hK => ?_)
  refine Kd.N_lit_step (Kd.slice 25 k25) _ 22 ?hg (N' := 40) ?hd (xs := ([t446, t459] : List (List (S25)))) (inner := [.slice Ao21 t446.length co21, .slice Ao22 t459.length co22]) (ok := (fun k_ => (w.heap.size ≤ k_) ∧ k_ ≠ gb445 ∧ k_ ≠ g)) (okp := (fun k_ => (w.heap.size ≤ k_) ∧ k_ ≠ gb445 ∧ k_ ≠ g)) ?hr ?hp (fun _ hk => hk) ((show ∀ k_, w20.heap.size ≤ k_ → (fun k_ => (w.heap.size ≤ k_) ∧ k_ ≠ gb445 ∧ k_ ≠ g) k_ from fun k_ hk => ⟨(Nat.le_trans (keep_size (w := w) (g := g) (row := none) (kK HK)) hk), Kd.freshB (g := gb445) (o := .cells #[.int .i64 6, .string (⟨#[]⟩ : ByteArray), .string (⟨#[]⟩ : ByteArray), .string t440, .slice none 0 0] 25 (0, 0)) (kB BK445) k_ hk, IsS83.fresh yI k_ hk⟩) _ (Nat.le_refl _)) (Below.refl _ _) (Nat.le_refl _) (by simp) ?_; (case hd => rfl); (case hg => rfl); (case hr => first | (go_simp; done) | (go_simp; rfl)); (case hp => exact (Reps.one (show Kd.FK (Kd.slice 25 k25) _ _ t446 [.slice Ao21 t446.length co21] from (Kd.FK_slice_mk (Kd.N_reads' (Kd.N_mono (ok' := (fun k_ => (w.heap.size ≤ k_) ∧ k_ ≠ gb445 ∧ k_ ≠ g)) (HO448.out) (fun k_ hk => ⟨hk.1.1, ⟨hk.1.2.1, hk.1.2.2⟩⟩))).2.1 (Kd.N_F (Kd.N_mono (ok' := (fun k_ => (w.heap.size ≤ k_) ∧ k_ ≠ gb445 ∧ k_ ≠ g)) (HO448.out) (fun k_ hk => ⟨hk.1.1, ⟨hk.1.2.1, hk.1.2.2⟩⟩))))) (Reps.one (show Kd.FK (Kd.slice 25 k25) _ _ t459 [.slice Ao22 t459.length co22] from (Kd.FK_slice_mk (Kd.N_reads' (Kd.N_mono (ok' := (fun k_ => (w.heap.size ≤ k_) ∧ k_ ≠ gb445 ∧ k_ ≠ g)) (HO461.out) (fun k_ hk => ⟨hk.1, ⟨hk.2.2.1, hk.2.2.2⟩⟩))).2.1 (Kd.N_F (Kd.N_mono (ok' := (fun k_ => (w.heap.size ≤ k_) ∧ k_ ≠ gb445 ∧ k_ ≠ g)) (HO461.out) (fun k_ hk => ⟨hk.1, ⟨hk.2.2.1, hk.2.2.2⟩⟩))))) (Reps.none _ _))))
  intro v466 w23 ho24 hb hg_ hnew_
  clear hg_ hnew_
  (first | rw [← Ny465.out] at ho24 | (simp only [Int.reduceToNat] at ho24; rw [← Ny465.out] at ho24))
  have n0_ := am (Kd.N_lower ho24 (keep_size (w := w) (g := g) (row := none) (kK HK)))
  have n1_ := am (IsS83.below yI hb)
  have n2_ := am (bB (kB BK445) hb)
  have n3_ := am (KeepBut.trans (kK HK) (KeepBut.of_below hb g none) (.inl rfl))
  have n4_ := am (below_step (kLI HB) hb)
  clear HI0
  clear BK445
  clear HK
  clear HB
  clear HO448
  clear HO461
  have HO467 := n0_
  have HI0 := n1_
  have BK445 := n2_
  have HK := n3_
  have HB := n4_
  clear n0_ n1_ n2_ n3_ n4_
  clear hb ho24
  obtain ⟨Ao25, co25, eo25⟩ := Kd.N_slice HO467.out
  (first | subst eo25 | (injection eo25 with f1_ f2_ f3_; have f4_ := f1_.symm; have f5_ := f3_.symm; clear f1_ f2_ f3_; subst f4_; subst f5_))
  refine hK.out _ _ ⟨(blk_cell BK445.out 0).trans rfl, (blk_cell BK445.out 1).trans rfl, (blk_cell BK445.out 2).trans rfl, (blk_cell BK445.out 3).trans rfl, (blk_cell BK445.out 4).trans rfl⟩ (fun hHeld => ?_)
  clear hK K
  refine norm_ (a' := ?_) ?_ ?_
  rotate_left
  ·show Act.put _ (some 40) _ = _
   simp only [Act.put, zT, z0, zS, i64_w, i32_w]
   rfl
  refine one_ (i := 5) (N := some 41) #[true, true, true, true, true, true, false] rfl rfl (by kernel_rfl) (by decide) (fun K hK => ?_)
  refine goes_ Try.func32 (by kernel_rfl) rfl #[.agg #[.int .i64 6, .string (⟨#[]⟩ : ByteArray), .string (⟨#[]⟩ : ByteArray), .string t440, .slice none 0 0], .slice Ao25 y465.length co25] (by rfl) rfl rfl yA ?_
  refine (tree_Node.calls _ _ _ _ _ (fun k_ => False) _ _ _ (fun k_ => ((w.heap.size ≤ k_) ∧ (k_ ≠ gb445 ∧ k_ ≠ g))) _ _ _ _ _ ?side1 ?side2 A8.out).mono ?_
  (case side1 => exact Kd.V_nil _ _ _ _ _)
  (case side2 => exact Kd.N_V (HO467.out))
  rintro e w26 ⟨v469, rfl, ho0, hb⟩
  refine ⟨_, rfl, ?_⟩
  replace HO467 := am (Kd.N_elder' (nB HO467) (Kd.N_base ho0) hb)
  have HO470 := am (Kd.N_lower (Kd.N_mono (ok' := fun k_ => (w.heap.size ≤ k_) ∧ k_ ≠ gb445 ∧ k_ ≠ g) ho0 (fun k_ hk_ => ⟨Or.elim hk_ (fun hs_ => Or.elim hs_ (fun hs_ => (hs_).elim) (fun hs_ => hs_.1)) (fun hn_ => (Nat.le_trans (keep_size (w := w) (g := g) (row := none) (kK HK)) hn_)), Or.elim hk_ (fun hs_ => Or.elim hs_ (fun hs_ => (hs_).elim) (fun hs_ => hs_.2.1)) (fun hn_ => (Kd.freshB (g := gb445) (o := .cells #[.int .i64 6, .string (⟨#[]⟩ : ByteArray), .string (⟨#[]⟩ : ByteArray), .string t440, .slice none 0 0] 25 (0, 0)) (kB BK445) k_ hn_)), Or.elim hk_ (fun hs_ => Or.elim hs_ (fun hs_ => (hs_).elim) (fun hs_ => hs_.2.2)) (fun hn_ => (IsS83.fresh yI k_ hn_))⟩)) (keep_size (w := w) (g := g) (row := none) (kK HK)))
  replace BK445 := am (bB (kB BK445) hb)
  replace HK := am (KeepBut.trans (kK HK) (KeepBut.of_below hb g none) (.inl rfl))
  replace HB := am (below_step (kLI HB) hb)
  replace HI0 := am (IsS83.below yI hb)
  (try clear hb)
  (try clear hb2)
  (try clear hk)
  (try clear hi)
  (try clear ho0)
  refine hK.out _ _ ⟨(blk_cell BK445.out 0).trans rfl, (blk_cell BK445.out 1).trans rfl, (blk_cell BK445.out 2).trans rfl, (blk_cell BK445.out 3).trans rfl, (blk_cell BK445.out 4).trans rfl⟩ (fun hHeld => ?_)
  clear hK K
  refine norm_ (a' := ?_) ?_ ?_
  rotate_left
  ·show Act.put _ (some 41) _ = _
   simp only [Act.put, zT, z0, zS, i64_w, i32_w]
   rfl
  refine pure_ (i := 6) (N := some 2) (v := ?_) (a' := ?_) #[true, true, true, true, true, true, true] rfl rfl (by kernel_rfl) (fun _ _ _ h => h) (Or.inl ⟨by rfl, ?_⟩) ?_ ?_
  rotate_left
  ·intro w'
   go_simp
   with_reducible rfl
  rotate_left
  ·simp only [Act.put, zT, z0, zS, i64_w, i32_w]
   rfl
  refine done_ (by kernel_rfl) ?_
  try go_wp2
  go_ret
  exact ⟨_, yE, fun e_ => absurd e_ (tree_Node_ne (by assumption)), Kd.N_mono (nB HO470) (fun _ hk => hk.1), yI, (kLI HB), (kK HK)⟩
 ·replace c6 := Bool.eq_false_iff.mpr c6
  subst c6
  rw [if_neg (show ¬ (false = true) by decide)] at H
  simp only [Option.some.injEq, Prod.mk.injEq] at H
  obtain ⟨rfl, rfl, rfl, rfl⟩ := H
  go_enter Try.func95, Try.ntmps95
  go_wp2_with (first | ((with_reducible refine gC 67 rfl ?_); refine gL (some 6) Try.func67 #[.pointer (some ⟨g, 0, none⟩), .int .i64 0] ?_; (with_reducible refine (parse_parser_look.calls _ _ _ _ _ _ _ _ _ _ _ _ w0 _ ?side1 ?side2 A2.out).mono ?_); (case side1 => exact yI); (case side2 => exact (kLI HB)); rintro e w27 ⟨rfl, hi, hb, hk⟩; refine ⟨_, rfl, ?_⟩; replace HK := am (KeepBut.trans (kK HK) hk (.inl rfl)); replace HB := am hb; replace HI0 := am hi; (try clear hi hb hk)) | ((with_reducible refine gD 3 rfl ?_); refine bx 3 #[.int .i64 0, .string (⟨#[]⟩ : ByteArray), .string (⟨#[]⟩ : ByteArray), .string (⟨#[]⟩ : ByteArray), .slice none 0 0] 25 ?_; intro gb445 hg w28 hbox hb; replace HB := am (below_step (kLI HB) hb); have BK445 := am hbox; have GW445 := am ((by rw [hg]; exact (keep_size (w := w) (g := g) (row := none) (kK HK)) : w.heap.size ≤ gb445)); have GE445 := am ((Nat.le_trans HW0.out (by rw [hg]; exact (keep_size (w := w) (g := g) (row := none) (kK HK)) : w.heap.size ≤ gb445) : w0.heap.size ≤ gb445)); replace HK := am (KeepBut.trans (kK HK) (KeepBut.of_below hb g none) (.inl rfl)); have NB0_445 := am ((by rw [hg]; exact Nat.ne_of_lt (IsS83.lt (show IsS83 w0 _ g s0_0 t442 t443 t444 from yI)) : g ≠ gb445)); have NB445_0 := am ((by rw [hg]; exact Nat.ne_of_gt (IsS83.lt (show IsS83 w0 _ g s0_0 t442 t443 t444 from yI)) : gb445 ≠ g)); replace HI0 := am (IsS83.below yI hb); clear hb hbox hg; have hnb29 := NB445_0.out; have hnc29 := NB0_445.out; obtain ⟨hcz30_0, hcz30_1, hcz30_2, hcz30_3, hcz30_4, hfz30_0, hfz30_1, hfz30_2, hfz30_3, hfz30_4⟩ := bk5 BK445.out; obtain ⟨ASz31_0, cSz31_0, HSz31_0, hcz31_0, hcz31_1, hcz31_2, hcz31_3, hfz31_1, hfz31_2, hfz31_3⟩ := IsS83.look HI0.out) | ((with_reducible refine gC 93 rfl ?_); refine gL (some 17) Try.func93 #[.pointer (some ⟨g, 0, none⟩)] ?_; (with_reducible refine (parse_parser_expr.calls _ _ _ _ _ _ _ _ _ w0 _ ?side1 ?side2 A3.out).mono ?_); (case side1 => exact yI); (case side2 => exact (kLI HB)); rintro e w32 ⟨v447, rfl, ho0, hi, hb, hk⟩; refine ⟨_, rfl, ?_⟩; have HO448 := am (Kd.N_lower (Kd.N_mono (ok' := fun k_ => (w.heap.size ≤ k_) ∧ k_ ≠ gb445 ∧ k_ ≠ g) ho0 (fun k_ hk_ => ⟨(Nat.le_trans (keep_size (w := w) (g := g) (row := none) (kK HK)) hk_), (fB BK445 k_ hk_), (IsS83.fresh yI k_ hk_)⟩)) (keep_size (w := w) (g := g) (row := none) (kK HK))); replace BK445 := am (KeepBut.blk hk (g' := gb445) (o := .cells #[.int .i64 6, .string (⟨#[]⟩ : ByteArray), .string (⟨#[]⟩ : ByteArray), .string t440, .slice none 0 0] 25 (0, 0)) (kM BK445) NB445_0.out (by simp)); replace HK := am (KeepBut.trans (kK HK) hk (.inl rfl)); replace HB := am hb; replace HI0 := am hi; (try clear ho0 hi hb hk)) | ((with_reducible refine gC 94 rfl ?_); refine gL (some 19) Try.func94 #[.pointer (some ⟨g, 0, none⟩), .string (⟨#[93]⟩ : ByteArray)] ?_; (with_reducible refine (parse_parser_mark.calls _ _ _ _ _ _ _ _ _ w0 _ ?side1 ?side2 A4.out).mono ?_); (case side1 => exact yI); (case side2 => exact (kLI HB)); rintro e w33 ⟨rfl, hi, hb, hk⟩; refine ⟨_, rfl, ?_⟩; replace BK445 := am (KeepBut.blk hk (kB BK445) NB445_0.out (by simp)); replace HO448 := am (Kd.N_mono (Kd.N_keep (Kd.N_mono (ok := fun k_ => (((w.heap.size ≤ k_)) ∧ (k_ ≠ gb445 ∧ k_ ≠ g))) (nB HO448) (fun k_ hk_ => (⟨hk_, hk_.2.2⟩ : _ ∧ k_ ≠ g))) hk (fun _ h => h.2)) (fun _ h => h.1)); replace HK := am (KeepBut.trans (kK HK) hk (.inl rfl)); replace HB := am hb; replace HI0 := am hi; (try clear hi hb hk)) | ((with_reducible refine gC 92 rfl ?_); refine gL (some 21) Try.func92 #[.pointer (some ⟨g, 0, none⟩), .int .i64 0, .string (⟨#[58]⟩ : ByteArray)] ?_; (with_reducible refine (parse_parser_is.calls _ _ _ _ _ _ _ _ _ _ _ w0 _ ?side1 ?side2 A5.out).mono ?_); (case side1 => exact yI); (case side2 => exact (kLI HB)); rintro e w34 ⟨rfl, hi, hb, hk⟩; refine ⟨_, rfl, ?_⟩; replace BK445 := am (KeepBut.blk hk (kB BK445) NB445_0.out (by simp)); replace HO448 := am (Kd.N_mono (Kd.N_keep (Kd.N_mono (ok := fun k_ => (((w.heap.size ≤ k_)) ∧ (k_ ≠ gb445 ∧ k_ ≠ g))) (nB HO448) (fun k_ hk_ => (⟨hk_, hk_.2.2⟩ : _ ∧ k_ ≠ g))) hk (fun _ h => h.2)) (fun _ h => h.1)); replace HK := am (KeepBut.trans (kK HK) hk (.inl rfl)); replace HB := am hb; replace HI0 := am hi; (try clear hi hb hk); obtain ⟨ASz35_0, cSz35_0, HSz35_0, hcz35_0, hcz35_1, hcz35_2, hcz35_3, hfz35_1, hfz35_2, hfz35_3⟩ := IsS83.look HI0.out))
  go_ret
  exact ⟨_, yE, fun _ => rfl, yZ, yI, (kLI HB), (kK HK)⟩
end Go.Proofs.Ytdelccahgchadaa.P
end
