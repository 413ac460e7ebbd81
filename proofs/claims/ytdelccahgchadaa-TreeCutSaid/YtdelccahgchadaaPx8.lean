/- Walks, written by a program out of the translation. -/
import Derived.Test.YtdelccahgchadaaPx0
import Derived.Test.YtdelccahgchadaaPx5
import Derived.Test.YtdelccahgchadaaPx7
import Derived.Test.YtdelccahgchadaaGBase
import Derived.Test.YtdelccahgchadaaGLex
import Derived.Test.YtdelccahgchadaaGTree
namespace Go.Proofs.Ytdelccahgchadaa.P
open Go.RowKit Go.Proofs.YtdelccahgchadaaW.PrintWords Go.Proofs.YtdelccahgchadaaW.PrintLast Go.Proofs.YtdelccahgchadaaW.PrintMore
attribute [local go_sem] max2_int min2_int max_two min_two max_three min_three max_four min_four   -- for this text's walks alone
set_option linter.unusedVariables false
set_option linter.unusedSimpArgs false

/-! ### tree_may: function 42 -/
mutual
def tree_may.j0 : Nat → Bool → Bool → Int → ByteArray → ByteArray → ByteArray → List ByteArray → Option (Bool)
  | 0, _, _, _, _, _, _, _ => none
  | k + 1, x3, x4, x168000, x168001, x168002, x168003, x168004 => if x168000 = 1 then (if x4 = true then (if x168003.toList = ([] : List UInt8) then (if x3 = true then (some false) else (if (x168004.length : Int) ≤ 100 then ((slices_ContainsFunc_string_string.f k x168004).bind fun t168 => (some (!t168))) else (some false))) else (some false)) else (some false)) else (if x168000 = 2 then (tree_may.j1 k x3 x4 x168000 (x168000 == 2) x168000 x168001 x168002 x168003 x168004) else (if x168000 = 5 then (tree_may.j1 k x3 x4 x168000 (x168000 == 5) x168000 x168001 x168002 x168003 x168004) else (tree_may.j1 k x3 x4 x168000 (x168000 == 6) x168000 x168001 x168002 x168003 x168004)))
def tree_may.j1 : Nat → Bool → Bool → Int → Bool → Int → ByteArray → ByteArray → ByteArray → List ByteArray → Option (Bool)
  | 0, _, _, _, _, _, _, _, _, _ => none
  | k + 1, x3, x4, x18, x43, x168000, x168001, x168002, x168003, x168004 => if x43 = true then (if x4 = true then (if x3 = true then ((tree_is.f k x168003 2).bind fun t169 => (some t169)) else (some false)) else (some false)) else (if x18 = 7 then (if x4 = true then (if x3 = true then ((tree_is.f k x168003 3).bind fun t170 => (some t170)) else (some false)) else (some false)) else (if x18 = 8 then (if x4 = true then (if x3 = true then (some (x168003.toList == ([] : List UInt8))) else (some false)) else (some false)) else (if x18 = 3 then (if x3 = true then (if x168003.toList = ([] : List UInt8) then ((tree_verb.f k x168001).bind fun t171 => (if t171 = true then ((tree_adv.f x168002 (⟨#[39, 47, 92, 96]⟩ : ByteArray)).bind fun t172 => (some t172)) else (some false))) else (some false)) else (some false)) else (if x18 = 4 then (if x3 = true then (if x168003.toList = ([] : List UInt8) then ((tree_verb.f k x168001).bind fun t173 => (if t173 = true then ((tree_adv.f x168002 (⟨#[39, 46]⟩ : ByteArray)).bind fun t174 => (some t174)) else (some false))) else (some false)) else (some false)) else (some false)))))
end
def tree_may.f (k : Nat) (a0_0 : Int) (a0_1 : ByteArray) (a0_2 : ByteArray) (a0_3 : ByteArray) (l0_4 : List ByteArray) : Option (Bool) := if a0_1.toList = ([] : List UInt8) then (tree_may.j0 k ((l0_4.length : Int) == 0) (a0_2.toList == ([] : List UInt8)) a0_0 a0_1 a0_2 a0_3 l0_4) else (tree_may.j0 k ((l0_4.length : Int) == 0) false a0_0 a0_1 a0_2 a0_3 l0_4)
theorem tree_may.mono_l : ∀ k, (∀ y0 y1 y2 y3 y4 y5 y6, LeO (tree_may.j0 k y0 y1 y2 y3 y4 y5 y6) (tree_may.j0 (k + 1) y0 y1 y2 y3 y4 y5 y6)) ∧ (∀ y0 y1 y2 y3 y4 y5 y6 y7 y8, LeO (tree_may.j1 k y0 y1 y2 y3 y4 y5 y6 y7 y8) (tree_may.j1 (k + 1) y0 y1 y2 y3 y4 y5 y6 y7 y8))
  | 0 => ⟨fun _ _ _ _ _ _ _ r h => by simp [tree_may.j0] at h, fun _ _ _ _ _ _ _ _ _ r h => by simp [tree_may.j1] at h⟩
  | k + 1 => by
    obtain ⟨ih0, ih1⟩ := tree_may.mono_l k
    refine ⟨?_, ?_⟩
    · intro y0 y1 y2 y3 y4 y5 y6
      unfold tree_may.j0
      repeat' first
      | (with_reducible exact ih0 _ _ _ _ _ _ _)
      | (with_reducible exact ih1 _ _ _ _ _ _ _ _ _)
      | (with_reducible exact slices_ContainsFunc_string_string.mono _ _)
      | (with_reducible exact tree_is.mono _ _ _)
      | (with_reducible exact tree_verb.mono _ _)
      | (with_reducible exact LeO.refl _)
      | (with_reducible exact LeO.none _)
      | (with_reducible refine LeO.ite ?_ ?_)
      | (with_reducible refine LeO.bind ?_ (fun _ => ?_))
      | exact ih0 _ _ _ _ _ _ _
      | exact ih1 _ _ _ _ _ _ _ _ _
      | exact slices_ContainsFunc_string_string.mono _ _
      | exact tree_is.mono _ _ _
      | exact tree_verb.mono _ _
      | exact LeO.none _
      | refine LeO.ite ?_ ?_
      | refine LeO.bind ?_ (fun _ => ?_)
    · intro y0 y1 y2 y3 y4 y5 y6 y7 y8
      unfold tree_may.j1
      repeat' first
      | (with_reducible exact ih0 _ _ _ _ _ _ _)
      | (with_reducible exact ih1 _ _ _ _ _ _ _ _ _)
      | (with_reducible exact slices_ContainsFunc_string_string.mono _ _)
      | (with_reducible exact tree_is.mono _ _ _)
      | (with_reducible exact tree_verb.mono _ _)
      | (with_reducible exact LeO.refl _)
      | (with_reducible exact LeO.none _)
      | (with_reducible refine LeO.ite ?_ ?_)
      | (with_reducible refine LeO.bind ?_ (fun _ => ?_))
      | exact ih0 _ _ _ _ _ _ _
      | exact ih1 _ _ _ _ _ _ _ _ _
      | exact slices_ContainsFunc_string_string.mono _ _
      | exact tree_is.mono _ _ _
      | exact tree_verb.mono _ _
      | exact LeO.none _
      | refine LeO.ite ?_ ?_
      | refine LeO.bind ?_ (fun _ => ?_)
theorem tree_may.mono : ∀ a0 a1 a2 a3 a4 k, LeO (tree_may.f k a0 a1 a2 a3 a4) (tree_may.f (k + 1) a0 a1 a2 a3 a4) := by
  intro a0 a1 a2 a3 a4 k
  obtain ⟨ih0, ih1⟩ := tree_may.mono_l k
  unfold tree_may.f
  repeat' first
      | (with_reducible exact ih0 _ _ _ _ _ _ _)
      | (with_reducible exact ih1 _ _ _ _ _ _ _ _ _)
      | (with_reducible exact slices_ContainsFunc_string_string.mono _ _)
      | (with_reducible exact tree_is.mono _ _ _)
      | (with_reducible exact tree_verb.mono _ _)
      | (with_reducible exact LeO.refl _)
      | (with_reducible exact LeO.none _)
      | (with_reducible refine LeO.ite ?_ ?_)
      | (with_reducible refine LeO.bind ?_ (fun _ => ?_))
      | exact ih0 _ _ _ _ _ _ _
      | exact ih1 _ _ _ _ _ _ _ _ _
      | exact slices_ContainsFunc_string_string.mono _ _
      | exact tree_is.mono _ _ _
      | exact tree_verb.mono _ _
      | exact LeO.none _
      | refine LeO.ite ?_ ?_
      | refine LeO.bind ?_ (fun _ => ?_)
set_option maxHeartbeats 8000000 in
set_option maxRecDepth 100000 in
theorem tree_may.calls (k : Nat) (a0_0 : Int) (a0_1 : ByteArray) (a0_2 : ByteArray) (a0_3 : ByteArray) (A0_4 : Option Addr) (c0_4 : Nat) (l0_4 : List ByteArray) (r : Bool) (w : World) (hr0_4 : Kd.C Kd.string w A0_4 l0_4.length l0_4) (hc0_4 : l0_4.length ≤ c0_4) (h : tree_may.f k a0_0 a0_1 a0_2 a0_3 l0_4 = some r) :
    Calls Try.prog 42 #[.agg #[.int .i64 a0_0, .string a0_1, .string a0_2, .string a0_3, .slice A0_4 l0_4.length c0_4]] w fun e w' => e = .returned (.bool r) ∧ Below w.heap.size w w' := by
  have hu25 := Try.underlying25
  have HR0_4 := Aside0.mk hr0_4
  have HC0_4 := Aside0.mk hc0_4
  clear hr0_4 hc0_4
  have HB := Aside0.mk (Below.refl w.heap.size w)
  have H : (if a0_1.toList = ([] : List UInt8) then (tree_may.j0 k ((l0_4.length : Int) == 0) (a0_2.toList == ([] : List UInt8)) a0_0 a0_1 a0_2 a0_3 l0_4) else (tree_may.j0 k ((l0_4.length : Int) == 0) false a0_0 a0_1 a0_2 a0_3 l0_4)) = some r := h
  clear h
  have HC2 := Aside0.mk H
  clear H
  go_enter Try.func42, Try.ntmps42
  go_upto_region 2 with (first | ((with_reducible refine gate_dst (N := 1) rfl ?_); (try (refine gate_guard (by rfl) ?_; dsimp only)); refine box_event ?hg (N := 1) ?hd (cs := #[.int .i64 a0_0, .string a0_1, .string a0_2, .string a0_3, .slice A0_4 l0_4.length c0_4]) (t := 25) ?hr ?_; (case hd => rfl); (case hg => rfl); (case hr => first | (go_simp; done) | (go_simp; rfl)); intro gb167 hg w3 hbox hb; have n0_ := Aside0.mk (below_step (by repeat (first | (with_reducible first | exact HB.out | apply below_alloc | apply pw_below_drewN | apply below_drew1) | exact HB.out)) hb); have n1_ := Aside0.mk (hbox); have n2_ := Aside0.mk ((by rw [hg]; exact (below_size (by repeat (first | (with_reducible first | exact HB.out | apply below_alloc | apply pw_below_drewN | apply below_drew1) | exact HB.out))) : w.heap.size ≤ gb167)); have n3_ := Aside0.mk ((by rw [hg]; exact (below_size (by repeat (first | (with_reducible first | exact HB.out | apply below_alloc | apply pw_below_drewN | apply below_drew1) | exact HB.out))) : w.heap.size ≤ gb167)); clear HB; have HB := n0_; have BK167 := n1_; have GW167 := n2_; have GE167 := n3_; clear n0_ n1_ n2_ n3_; clear hb hbox hg; have hcz4_0 : w3.cell? ⟨gb167, 0, none⟩ = some (.int .i64 a0_0) := (blk_cell BK167.out 0).trans rfl; have hcz4_1 : w3.cell? ⟨gb167, 1, none⟩ = some (.string a0_1) := (blk_cell BK167.out 1).trans rfl; have hcz4_2 : w3.cell? ⟨gb167, 2, none⟩ = some (.string a0_2) := (blk_cell BK167.out 2).trans rfl; have hcz4_3 : w3.cell? ⟨gb167, 3, none⟩ = some (.string a0_3) := (blk_cell BK167.out 3).trans rfl; have hcz4_4 : w3.cell? ⟨gb167, 4, none⟩ = some (.slice A0_4 l0_4.length c0_4) := (blk_cell BK167.out 4).trans rfl; have hfz4_0 := blk_frozen BK167.out 0; have hfz4_1 := blk_frozen BK167.out 1; have hfz4_2 := blk_frozen BK167.out 2; have hfz4_3 := blk_frozen BK167.out 3; have hfz4_4 := blk_frozen BK167.out 4))
  (try simp only [Act.put, List.setIfInBounds_toArray, List.set_cons_zero, List.set_cons_succ])
  go_cut [4] (fun v4 wc => ∃ (kq : Nat) (x4_1 : Bool), v4 = .bool x4_1 ∧ Aside0 (tree_may.j0 kq ((l0_4.length : Int) == 0) x4_1 a0_0 a0_1 a0_2 a0_3 l0_4 = some r) ∧ Aside0 (kq ≤ k) ∧ Aside0 (wc.heap[gb167]? = some (.cells #[.int .i64 a0_0, .string a0_1, .string a0_2, .string a0_3, (.slice A0_4 l0_4.length c0_4)] 25 (0, 0))) ∧ Aside0 (Below w.heap.size w wc))
  case first =>
    have H := HC2.out
    clear HC2
    by_cases c5 : a0_1.toList = ([] : List UInt8)
    · rw [if_pos c5] at H
      have c5b0 : (a0_1.toList == ([] : List UInt8)) = true := beq_iff_eq.mpr c5
      have c5b1 : (a0_1.toList != ([] : List UInt8)) = false := bne_eq_false_iff_eq.mpr c5
      clear c5
      (first | rw [c5b0] | (simp only [i64_w, i32_w]; rw [c5b0]) | skip)
      have H' := Aside0.mk H
      clear H
      have hcz6_0 : w3.cell? ⟨gb167, 0, none⟩ = some (.int .i64 a0_0) := (blk_cell BK167.out 0).trans rfl
      have hcz6_1 : w3.cell? ⟨gb167, 1, none⟩ = some (.string a0_1) := (blk_cell BK167.out 1).trans rfl
      have hcz6_2 : w3.cell? ⟨gb167, 2, none⟩ = some (.string a0_2) := (blk_cell BK167.out 2).trans rfl
      have hcz6_3 : w3.cell? ⟨gb167, 3, none⟩ = some (.string a0_3) := (blk_cell BK167.out 3).trans rfl
      have hcz6_4 : w3.cell? ⟨gb167, 4, none⟩ = some (.slice A0_4 l0_4.length c0_4) := (blk_cell BK167.out 4).trans rfl
      have hfz6_0 := blk_frozen BK167.out 0
      have hfz6_1 := blk_frozen BK167.out 1
      have hfz6_2 := blk_frozen BK167.out 2
      have hfz6_3 := blk_frozen BK167.out 3
      have hfz6_4 := blk_frozen BK167.out 4
      go_wp2
      go_meet
      case rel => exact ⟨_, ((a0_2.toList == ([] : List UInt8))), (by first | rfl | (simp; done) | (simp [*]; done)), H', ⟨by first | omega | exact Nat.le_refl _⟩, ⟨by (with_reducible repeat (first | refine blk_drewN ?_ _ | refine blk_drew ?_ | refine blk_alloc ?_ _)); exact BK167.out⟩, ⟨by repeat (first | (with_reducible first | exact HB.out | apply below_alloc | apply pw_below_drewN | apply below_drew1 | refine below_set ?_ GE167.out) | exact HB.out)⟩⟩
    · rw [if_neg c5] at H
      have c5b0 : (a0_1.toList == ([] : List UInt8)) = false := beq_eq_false_iff_ne.mpr c5
      have c5b1 : (a0_1.toList != ([] : List UInt8)) = true := bne_iff_ne.mpr c5
      (first | rw [c5b0] | (simp only [i64_w, i32_w]; rw [c5b0]) | skip)
      have H' := Aside0.mk H
      clear H
      have hcz7_0 : w3.cell? ⟨gb167, 0, none⟩ = some (.int .i64 a0_0) := (blk_cell BK167.out 0).trans rfl
      have hcz7_1 : w3.cell? ⟨gb167, 1, none⟩ = some (.string a0_1) := (blk_cell BK167.out 1).trans rfl
      have hcz7_2 : w3.cell? ⟨gb167, 2, none⟩ = some (.string a0_2) := (blk_cell BK167.out 2).trans rfl
      have hcz7_3 : w3.cell? ⟨gb167, 3, none⟩ = some (.string a0_3) := (blk_cell BK167.out 3).trans rfl
      have hcz7_4 : w3.cell? ⟨gb167, 4, none⟩ = some (.slice A0_4 l0_4.length c0_4) := (blk_cell BK167.out 4).trans rfl
      have hfz7_0 := blk_frozen BK167.out 0
      have hfz7_1 := blk_frozen BK167.out 1
      have hfz7_2 := blk_frozen BK167.out 2
      have hfz7_3 := blk_frozen BK167.out 3
      have hfz7_4 := blk_frozen BK167.out 4
      go_wp2
      go_meet
      case rel => exact ⟨_, (false), (by first | rfl | (simp; done) | (simp [*]; done)), H', ⟨by first | omega | exact Nat.le_refl _⟩, ⟨by (with_reducible repeat (first | refine blk_drewN ?_ _ | refine blk_drew ?_ | refine blk_alloc ?_ _)); exact BK167.out⟩, ⟨by repeat (first | (with_reducible first | exact HB.out | apply below_alloc | apply pw_below_drewN | apply below_drew1 | refine below_set ?_ GE167.out) | exact HB.out)⟩⟩
  case rest =>
    clear HC2
    try clear p2
    try clear c4
    try clear c5
    try clear c5b0
    try clear c5b1
    try clear hcz4_0
    try clear hcz4_1
    try clear hcz4_2
    try clear hcz4_3
    try clear hcz4_4
    try clear hcz6_0
    try clear hcz6_1
    try clear hcz6_2
    try clear hcz6_3
    try clear hcz6_4
    try clear hcz7_0
    try clear hcz7_1
    try clear hcz7_2
    try clear hcz7_3
    try clear hcz7_4
    try clear hfz4_0
    try clear hfz4_1
    try clear hfz4_2
    try clear hfz4_3
    try clear hfz4_4
    try clear hfz6_0
    try clear hfz6_1
    try clear hfz6_2
    try clear hfz6_3
    try clear hfz6_4
    try clear hfz7_0
    try clear hfz7_1
    try clear hfz7_2
    try clear hfz7_3
    try clear hfz7_4
    obtain ⟨kq, x4_1, rfl, HA, HJ1, BK167, HB⟩ := hcut
    cases kq with
    | zero => exact absurd HA.out (by simp [tree_may.j0])
    | succ kj1 =>
      have H := HA.out
      clear HA
      simp only [tree_may.j0] at H
      by_cases c8 : a0_0 = 1
      · rw [if_pos c8] at H
        have c8b0 : (a0_0 == 1) = true := beq_iff_eq.mpr c8
        have c8b1 : (a0_0 != 1) = false := bne_eq_false_iff_eq.mpr c8
        clear c8
        by_cases c9 : x4_1 = true
        · subst c9
          have H1 : (if a0_3.toList = ([] : List UInt8) then (if ((l0_4.length : Int) == 0) = true then (some false) else (if (l0_4.length : Int) ≤ 100 then ((slices_ContainsFunc_string_string.f kj1 l0_4).bind fun t168 => (some (!t168))) else (some false))) else (some false)) = some r := by rw [if_pos rfl] at H; exact H
          clear H
          have H := H1
          clear H1
          by_cases c10 : a0_3.toList = ([] : List UInt8)
          · rw [if_pos c10] at H
            have c10b0 : (a0_3.toList == ([] : List UInt8)) = true := beq_iff_eq.mpr c10
            have c10b1 : (a0_3.toList != ([] : List UInt8)) = false := bne_eq_false_iff_eq.mpr c10
            clear c10
            by_cases c11 : ((l0_4.length : Int) == 0) = true
            · rw [if_pos c11] at H
              have c11b0 : ((l0_4.length : Int) == 0) = true := c11
              (try (have c11b1 : decide ((l0_4.length : Int) = 0) = true := by simpa using c11))
              (try (have c11b2 : ((l0_4.length : Int) == 0) = true := by simpa using c11))
              clear c11
              obtain rfl := Option.some.inj H
              have hcz12_0 : wc.cell? ⟨gb167, 0, none⟩ = some (.int .i64 a0_0) := (blk_cell BK167.out 0).trans rfl
              have hcz12_1 : wc.cell? ⟨gb167, 1, none⟩ = some (.string a0_1) := (blk_cell BK167.out 1).trans rfl
              have hcz12_2 : wc.cell? ⟨gb167, 2, none⟩ = some (.string a0_2) := (blk_cell BK167.out 2).trans rfl
              have hcz12_3 : wc.cell? ⟨gb167, 3, none⟩ = some (.string a0_3) := (blk_cell BK167.out 3).trans rfl
              have hcz12_4 : wc.cell? ⟨gb167, 4, none⟩ = some (.slice A0_4 l0_4.length c0_4) := (blk_cell BK167.out 4).trans rfl
              have hfz12_0 := blk_frozen BK167.out 0
              have hfz12_1 := blk_frozen BK167.out 1
              have hfz12_2 := blk_frozen BK167.out 2
              have hfz12_3 := blk_frozen BK167.out 3
              have hfz12_4 := blk_frozen BK167.out 4
              go_wp2
              go_ret
              exact ⟨by first | rfl | (simp [errW_none, errW_some] <;> rfl) | (simp [*, errW_none, errW_some] <;> rfl), by repeat (first | (with_reducible first | exact HB.out | apply below_alloc | apply pw_below_drewN | apply below_drew1 | refine below_set ?_ GE167.out) | exact HB.out)⟩
            · rw [if_neg c11] at H
              have c11b0 : ((l0_4.length : Int) == 0) = false := by simpa using c11
              (try (have c11b1 : decide ((l0_4.length : Int) = 0) = false := by simpa using c11))
              (try (have c11b2 : ((l0_4.length : Int) == 0) = false := by simpa using c11))
              (try (have c11b3 : ¬ ((l0_4.length : Int) = 0) := by simpa using c11))
              clear c11
              by_cases c13 : (l0_4.length : Int) ≤ 100
              · rw [if_pos c13] at H
                have c13b0 : decide ((l0_4.length : Int) ≤ 100) = true := decide_eq_true c13
                have c13b1 : decide (l0_4.length ≤ 100) = true := decide_eq_true (by omega)
                clear c13
                replace H := Option.bind_eq_some_iff.mp H
                obtain ⟨t168, A140, H⟩ := H
                replace H : (some (!t168)) = some r := H
                have A14 := Aside0.mk A140
                clear A140
                obtain rfl := Option.some.inj H
                have hcz15_0 : wc.cell? ⟨gb167, 0, none⟩ = some (.int .i64 a0_0) := (blk_cell BK167.out 0).trans rfl
                have hcz15_1 : wc.cell? ⟨gb167, 1, none⟩ = some (.string a0_1) := (blk_cell BK167.out 1).trans rfl
                have hcz15_2 : wc.cell? ⟨gb167, 2, none⟩ = some (.string a0_2) := (blk_cell BK167.out 2).trans rfl
                have hcz15_3 : wc.cell? ⟨gb167, 3, none⟩ = some (.string a0_3) := (blk_cell BK167.out 3).trans rfl
                have hcz15_4 : wc.cell? ⟨gb167, 4, none⟩ = some (.slice A0_4 l0_4.length c0_4) := (blk_cell BK167.out 4).trans rfl
                have hfz15_0 := blk_frozen BK167.out 0
                have hfz15_1 := blk_frozen BK167.out 1
                have hfz15_2 := blk_frozen BK167.out 2
                have hfz15_3 := blk_frozen BK167.out 3
                have hfz15_4 := blk_frozen BK167.out 4
                go_wp2_with (first | (go_at_call 55; (with_reducible refine (slices_ContainsFunc_string_string.calls kj1 _ _ l0_4  t168 _ ?side1 ?side2 A14.out).mono ?_); (case side1 => repeat (first | exact (Kd.C_below HR0_4.out HB.out) | (with_reducible refine Kd.C_alloc ?_ _) | (with_reducible refine Kd.C_drewN ?_ _) | (with_reducible refine Kd.C_drew ?_))); (case side2 => exact HC0_4.out); rintro e w16 ⟨rfl, hb⟩; have n0_ := Aside0.mk (blk_below (g := gb167) (o := .cells #[.int .i64 a0_0, .string a0_1, .string a0_2, .string a0_3, .slice A0_4 l0_4.length c0_4] 25 (0, 0)) (by (with_reducible repeat (first | refine blk_drewN ?_ _ | refine blk_drew ?_ | refine blk_alloc ?_ _)); exact BK167.out) hb); have n1_ := Aside0.mk (below_step (by repeat (first | (with_reducible first | exact HB.out | apply below_alloc | apply pw_below_drewN | apply below_drew1 | refine below_set ?_ GE167.out) | exact HB.out)) hb); clear BK167; clear HB; have BK167 := n0_; have HB := n1_; clear n0_ n1_; (try clear hb); (try clear hb2); (try clear hk); (try clear hi)))
                go_ret
                exact ⟨by first | rfl | (simp [errW_none, errW_some] <;> rfl) | (simp [*, errW_none, errW_some] <;> rfl), by repeat (first | (with_reducible first | exact HB.out | apply below_alloc | apply pw_below_drewN | apply below_drew1 | refine below_set ?_ GE167.out) | exact HB.out)⟩
              · rw [if_neg c13] at H
                have c13b0 : decide ((l0_4.length : Int) ≤ 100) = false := decide_eq_false c13
                have c13b1 : decide (l0_4.length ≤ 100) = false := decide_eq_false (by omega)
                clear c13
                obtain rfl := Option.some.inj H
                have hcz17_0 : wc.cell? ⟨gb167, 0, none⟩ = some (.int .i64 a0_0) := (blk_cell BK167.out 0).trans rfl
                have hcz17_1 : wc.cell? ⟨gb167, 1, none⟩ = some (.string a0_1) := (blk_cell BK167.out 1).trans rfl
                have hcz17_2 : wc.cell? ⟨gb167, 2, none⟩ = some (.string a0_2) := (blk_cell BK167.out 2).trans rfl
                have hcz17_3 : wc.cell? ⟨gb167, 3, none⟩ = some (.string a0_3) := (blk_cell BK167.out 3).trans rfl
                have hcz17_4 : wc.cell? ⟨gb167, 4, none⟩ = some (.slice A0_4 l0_4.length c0_4) := (blk_cell BK167.out 4).trans rfl
                have hfz17_0 := blk_frozen BK167.out 0
                have hfz17_1 := blk_frozen BK167.out 1
                have hfz17_2 := blk_frozen BK167.out 2
                have hfz17_3 := blk_frozen BK167.out 3
                have hfz17_4 := blk_frozen BK167.out 4
                go_wp2
                go_ret
                exact ⟨by first | rfl | (simp [errW_none, errW_some] <;> rfl) | (simp [*, errW_none, errW_some] <;> rfl), by repeat (first | (with_reducible first | exact HB.out | apply below_alloc | apply pw_below_drewN | apply below_drew1 | refine below_set ?_ GE167.out) | exact HB.out)⟩
          · rw [if_neg c10] at H
            have c10b0 : (a0_3.toList == ([] : List UInt8)) = false := beq_eq_false_iff_ne.mpr c10
            have c10b1 : (a0_3.toList != ([] : List UInt8)) = true := bne_iff_ne.mpr c10
            obtain rfl := Option.some.inj H
            have hcz18_0 : wc.cell? ⟨gb167, 0, none⟩ = some (.int .i64 a0_0) := (blk_cell BK167.out 0).trans rfl
            have hcz18_1 : wc.cell? ⟨gb167, 1, none⟩ = some (.string a0_1) := (blk_cell BK167.out 1).trans rfl
            have hcz18_2 : wc.cell? ⟨gb167, 2, none⟩ = some (.string a0_2) := (blk_cell BK167.out 2).trans rfl
            have hcz18_3 : wc.cell? ⟨gb167, 3, none⟩ = some (.string a0_3) := (blk_cell BK167.out 3).trans rfl
            have hcz18_4 : wc.cell? ⟨gb167, 4, none⟩ = some (.slice A0_4 l0_4.length c0_4) := (blk_cell BK167.out 4).trans rfl
            have hfz18_0 := blk_frozen BK167.out 0
            have hfz18_1 := blk_frozen BK167.out 1
            have hfz18_2 := blk_frozen BK167.out 2
            have hfz18_3 := blk_frozen BK167.out 3
            have hfz18_4 := blk_frozen BK167.out 4
            go_wp2
            go_ret
            exact ⟨by first | rfl | (simp [errW_none, errW_some] <;> rfl) | (simp [*, errW_none, errW_some] <;> rfl), by repeat (first | (with_reducible first | exact HB.out | apply below_alloc | apply pw_below_drewN | apply below_drew1 | refine below_set ?_ GE167.out) | exact HB.out)⟩
        · replace c9 := Bool.eq_false_iff.mpr c9
          subst c9
          have H1 : (some false) = some r := by rw [if_neg (show ¬ (false = true) by decide)] at H; exact H
          clear H
          have H := H1
          clear H1
          obtain rfl := Option.some.inj H
          have hcz19_0 : wc.cell? ⟨gb167, 0, none⟩ = some (.int .i64 a0_0) := (blk_cell BK167.out 0).trans rfl
          have hcz19_1 : wc.cell? ⟨gb167, 1, none⟩ = some (.string a0_1) := (blk_cell BK167.out 1).trans rfl
          have hcz19_2 : wc.cell? ⟨gb167, 2, none⟩ = some (.string a0_2) := (blk_cell BK167.out 2).trans rfl
          have hcz19_3 : wc.cell? ⟨gb167, 3, none⟩ = some (.string a0_3) := (blk_cell BK167.out 3).trans rfl
          have hcz19_4 : wc.cell? ⟨gb167, 4, none⟩ = some (.slice A0_4 l0_4.length c0_4) := (blk_cell BK167.out 4).trans rfl
          have hfz19_0 := blk_frozen BK167.out 0
          have hfz19_1 := blk_frozen BK167.out 1
          have hfz19_2 := blk_frozen BK167.out 2
          have hfz19_3 := blk_frozen BK167.out 3
          have hfz19_4 := blk_frozen BK167.out 4
          go_wp2
          go_ret
          exact ⟨by first | rfl | (simp [errW_none, errW_some] <;> rfl) | (simp [*, errW_none, errW_some] <;> rfl), by repeat (first | (with_reducible first | exact HB.out | apply below_alloc | apply pw_below_drewN | apply below_drew1 | refine below_set ?_ GE167.out) | exact HB.out)⟩
      · rw [if_neg c8] at H
        have c8b0 : (a0_0 == 1) = false := beq_eq_false_iff_ne.mpr c8
        have c8b1 : (a0_0 != 1) = true := bne_iff_ne.mpr c8
        have HC20 := Aside0.mk H
        clear H
        have hcz21_0 : wc.cell? ⟨gb167, 0, none⟩ = some (.int .i64 a0_0) := (blk_cell BK167.out 0).trans rfl
        have hcz21_1 : wc.cell? ⟨gb167, 1, none⟩ = some (.string a0_1) := (blk_cell BK167.out 1).trans rfl
        have hcz21_2 : wc.cell? ⟨gb167, 2, none⟩ = some (.string a0_2) := (blk_cell BK167.out 2).trans rfl
        have hcz21_3 : wc.cell? ⟨gb167, 3, none⟩ = some (.string a0_3) := (blk_cell BK167.out 3).trans rfl
        have hcz21_4 : wc.cell? ⟨gb167, 4, none⟩ = some (.slice A0_4 l0_4.length c0_4) := (blk_cell BK167.out 4).trans rfl
        have hfz21_0 := blk_frozen BK167.out 0
        have hfz21_1 := blk_frozen BK167.out 1
        have hfz21_2 := blk_frozen BK167.out 2
        have hfz21_3 := blk_frozen BK167.out 3
        have hfz21_4 := blk_frozen BK167.out 4
        go_upto_if 43 with (fail)
        go_cut [43] (fun v43 wc => ∃ (kq : Nat) (x43_19 : Bool), v43 = .bool x43_19 ∧ Aside0 (tree_may.j1 kq ((l0_4.length : Int) == 0) x4_1 a0_0 x43_19 a0_0 a0_1 a0_2 a0_3 l0_4 = some r) ∧ Aside0 (kq ≤ kj1) ∧ Aside0 (wc.heap[gb167]? = some (.cells #[.int .i64 a0_0, .string a0_1, .string a0_2, .string a0_3, (.slice A0_4 l0_4.length c0_4)] 25 (0, 0))) ∧ Aside0 (Below w.heap.size w wc))
        case first =>
          have H := HC20.out
          clear HC20
          by_cases c22 : a0_0 = 2
          · rw [if_pos c22] at H
            have c22b0 : (a0_0 == 2) = true := beq_iff_eq.mpr c22
            have c22b1 : (a0_0 != 2) = false := bne_eq_false_iff_eq.mpr c22
            clear c22
            (first | rw [c22b0] | (simp only [i64_w, i32_w]; rw [c22b0]) | skip)
            have H' := Aside0.mk H
            clear H
            go_wp2
            go_meet
            case rel => exact ⟨_, ((a0_0 == 2)), (by first | rfl | (simp; done) | (simp [*]; done)), H', ⟨by have := HJ1.out; first | omega | exact Nat.le_refl _⟩, ⟨by (with_reducible repeat (first | refine blk_drewN ?_ _ | refine blk_drew ?_ | refine blk_alloc ?_ _)); exact BK167.out⟩, ⟨by repeat (first | (with_reducible first | exact HB.out | apply below_alloc | apply pw_below_drewN | apply below_drew1 | refine below_set ?_ GE167.out) | exact HB.out)⟩⟩
          · rw [if_neg c22] at H
            have c22b0 : (a0_0 == 2) = false := beq_eq_false_iff_ne.mpr c22
            have c22b1 : (a0_0 != 2) = true := bne_iff_ne.mpr c22
            (first | rw [c22b0] | (simp only [i64_w, i32_w]; rw [c22b0]) | skip)
            by_cases c23 : a0_0 = 5
            · rw [if_pos c23] at H
              have c23b0 : (a0_0 == 5) = true := beq_iff_eq.mpr c23
              have c23b1 : (a0_0 != 5) = false := bne_eq_false_iff_eq.mpr c23
              clear c23
              have H' := Aside0.mk H
              clear H
              go_wp2
              go_meet
              case rel => exact ⟨_, ((a0_0 == 5)), (by first | rfl | (simp; done) | (simp [*]; done)), H', ⟨by have := HJ1.out; first | omega | exact Nat.le_refl _⟩, ⟨by (with_reducible repeat (first | refine blk_drewN ?_ _ | refine blk_drew ?_ | refine blk_alloc ?_ _)); exact BK167.out⟩, ⟨by repeat (first | (with_reducible first | exact HB.out | apply below_alloc | apply pw_below_drewN | apply below_drew1 | refine below_set ?_ GE167.out) | exact HB.out)⟩⟩
            · rw [if_neg c23] at H
              have c23b0 : (a0_0 == 5) = false := beq_eq_false_iff_ne.mpr c23
              have c23b1 : (a0_0 != 5) = true := bne_iff_ne.mpr c23
              have H' := Aside0.mk H
              clear H
              go_wp2
              go_meet
              case rel => exact ⟨_, ((a0_0 == 6)), (by first | rfl | (simp; done) | (simp [*]; done)), H', ⟨by have := HJ1.out; first | omega | exact Nat.le_refl _⟩, ⟨by (with_reducible repeat (first | refine blk_drewN ?_ _ | refine blk_drew ?_ | refine blk_alloc ?_ _)); exact BK167.out⟩, ⟨by repeat (first | (with_reducible first | exact HB.out | apply below_alloc | apply pw_below_drewN | apply below_drew1 | refine below_set ?_ GE167.out) | exact HB.out)⟩⟩
        case rest =>
          clear HC20
          try clear c1
          try clear c2
          try clear p2
          try clear c4
          try clear c5
          try clear c5b0
          try clear c5b1
          try clear c8
          try clear c8b0
          try clear c8b1
          try clear c9
          try clear c10
          try clear c10b0
          try clear c10b1
          try clear c11
          try clear c11b0
          try clear c11b1
          try clear c11b2
          try clear c13
          try clear c13b0
          try clear c13b1
          try clear c22
          try clear c22b0
          try clear c22b1
          try clear c23
          try clear c23b0
          try clear c23b1
          try clear hcz12_0
          try clear hcz12_1
          try clear hcz12_2
          try clear hcz12_3
          try clear hcz12_4
          try clear hcz15_0
          try clear hcz15_1
          try clear hcz15_2
          try clear hcz15_3
          try clear hcz15_4
          try clear hcz17_0
          try clear hcz17_1
          try clear hcz17_2
          try clear hcz17_3
          try clear hcz17_4
          try clear hcz18_0
          try clear hcz18_1
          try clear hcz18_2
          try clear hcz18_3
          try clear hcz18_4
          try clear hcz19_0
          try clear hcz19_1
          try clear hcz19_2
          try clear hcz19_3
          try clear hcz19_4
          try clear hcz21_0
          try clear hcz21_1
          try clear hcz21_2
          try clear hcz21_3
          try clear hcz21_4
          try clear hcz4_0
          try clear hcz4_1
          try clear hcz4_2
          try clear hcz4_3
          try clear hcz4_4
          try clear hcz6_0
          try clear hcz6_1
          try clear hcz6_2
          try clear hcz6_3
          try clear hcz6_4
          try clear hcz7_0
          try clear hcz7_1
          try clear hcz7_2
          try clear hcz7_3
          try clear hcz7_4
          try clear hfz12_0
          try clear hfz12_1
          try clear hfz12_2
          try clear hfz12_3
          try clear hfz12_4
          try clear hfz15_0
          try clear hfz15_1
          try clear hfz15_2
          try clear hfz15_3
          try clear hfz15_4
          try clear hfz17_0
          try clear hfz17_1
          try clear hfz17_2
          try clear hfz17_3
          try clear hfz17_4
          try clear hfz18_0
          try clear hfz18_1
          try clear hfz18_2
          try clear hfz18_3
          try clear hfz18_4
          try clear hfz19_0
          try clear hfz19_1
          try clear hfz19_2
          try clear hfz19_3
          try clear hfz19_4
          try clear hfz21_0
          try clear hfz21_1
          try clear hfz21_2
          try clear hfz21_3
          try clear hfz21_4
          try clear hfz4_0
          try clear hfz4_1
          try clear hfz4_2
          try clear hfz4_3
          try clear hfz4_4
          try clear hfz6_0
          try clear hfz6_1
          try clear hfz6_2
          try clear hfz6_3
          try clear hfz6_4
          try clear hfz7_0
          try clear hfz7_1
          try clear hfz7_2
          try clear hfz7_3
          try clear hfz7_4
          try clear p2
          obtain ⟨kq, x43_19, rfl, HA, HJ19, BK167, HB⟩ := hcut
          cases kq with
          | zero => exact absurd HA.out (by simp [tree_may.j1])
          | succ kj19 =>
            have H := HA.out
            clear HA
            simp only [tree_may.j1] at H
            by_cases c24 : x43_19 = true
            · subst c24
              have H1 : (if x4_1 = true then (if ((l0_4.length : Int) == 0) = true then ((tree_is.f kj19 a0_3 2).bind fun t169 => (some t169)) else (some false)) else (some false)) = some r := by rw [if_pos rfl] at H; exact H
              clear H
              have H := H1
              clear H1
              by_cases c25 : x4_1 = true
              · subst c25
                have H1 : (if ((l0_4.length : Int) == 0) = true then ((tree_is.f kj19 a0_3 2).bind fun t169 => (some t169)) else (some false)) = some r := by rw [if_pos rfl] at H; exact H
                clear H
                have H := H1
                clear H1
                by_cases c26 : ((l0_4.length : Int) == 0) = true
                · rw [if_pos c26] at H
                  have c26b0 : ((l0_4.length : Int) == 0) = true := c26
                  (try (have c26b1 : decide ((l0_4.length : Int) = 0) = true := by simpa using c26))
                  (try (have c26b2 : ((l0_4.length : Int) == 0) = true := by simpa using c26))
                  clear c26
                  replace H := Option.bind_eq_some_iff.mp H
                  obtain ⟨t169, A270, H⟩ := H
                  replace H : (some t169) = some r := H
                  have A27 := Aside0.mk A270
                  clear A270
                  obtain rfl := Option.some.inj H
                  have hcz28_0 : wc.cell? ⟨gb167, 0, none⟩ = some (.int .i64 a0_0) := (blk_cell BK167.out 0).trans rfl
                  have hcz28_1 : wc.cell? ⟨gb167, 1, none⟩ = some (.string a0_1) := (blk_cell BK167.out 1).trans rfl
                  have hcz28_2 : wc.cell? ⟨gb167, 2, none⟩ = some (.string a0_2) := (blk_cell BK167.out 2).trans rfl
                  have hcz28_3 : wc.cell? ⟨gb167, 3, none⟩ = some (.string a0_3) := (blk_cell BK167.out 3).trans rfl
                  have hcz28_4 : wc.cell? ⟨gb167, 4, none⟩ = some (.slice A0_4 l0_4.length c0_4) := (blk_cell BK167.out 4).trans rfl
                  have hfz28_0 := blk_frozen BK167.out 0
                  have hfz28_1 := blk_frozen BK167.out 1
                  have hfz28_2 := blk_frozen BK167.out 2
                  have hfz28_3 := blk_frozen BK167.out 3
                  have hfz28_4 := blk_frozen BK167.out 4
                  go_wp2_with (first | (go_at_call 58; (with_reducible refine (tree_is.calls kj19 a0_3 2 t169 _ A27.out).mono ?_); rintro e w29 ⟨rfl, hb⟩; have n0_ := Aside0.mk (blk_below (g := gb167) (o := .cells #[.int .i64 a0_0, .string a0_1, .string a0_2, .string a0_3, .slice A0_4 l0_4.length c0_4] 25 (0, 0)) (by (with_reducible repeat (first | refine blk_drewN ?_ _ | refine blk_drew ?_ | refine blk_alloc ?_ _)); exact BK167.out) hb); have n1_ := Aside0.mk (below_step (by repeat (first | (with_reducible first | exact HB.out | apply below_alloc | apply pw_below_drewN | apply below_drew1 | refine below_set ?_ GE167.out) | exact HB.out)) hb); clear BK167; clear HB; have BK167 := n0_; have HB := n1_; clear n0_ n1_; (try clear hb); (try clear hb2); (try clear hk); (try clear hi)))
                  go_ret
                  exact ⟨by first | rfl | (simp [errW_none, errW_some] <;> rfl) | (simp [*, errW_none, errW_some] <;> rfl), by repeat (first | (with_reducible first | exact HB.out | apply below_alloc | apply pw_below_drewN | apply below_drew1 | refine below_set ?_ GE167.out) | exact HB.out)⟩
                · rw [if_neg c26] at H
                  have c26b0 : ((l0_4.length : Int) == 0) = false := by simpa using c26
                  (try (have c26b1 : decide ((l0_4.length : Int) = 0) = false := by simpa using c26))
                  (try (have c26b2 : ((l0_4.length : Int) == 0) = false := by simpa using c26))
                  (try (have c26b3 : ¬ ((l0_4.length : Int) = 0) := by simpa using c26))
                  clear c26
                  obtain rfl := Option.some.inj H
                  go_wp2
                  go_ret
                  exact ⟨by first | rfl | (simp [errW_none, errW_some] <;> rfl) | (simp [*, errW_none, errW_some] <;> rfl), by repeat (first | (with_reducible first | exact HB.out | apply below_alloc | apply pw_below_drewN | apply below_drew1 | refine below_set ?_ GE167.out) | exact HB.out)⟩
              · replace c25 := Bool.eq_false_iff.mpr c25
                subst c25
                have H1 : (some false) = some r := by rw [if_neg (show ¬ (false = true) by decide)] at H; exact H
                clear H
                have H := H1
                clear H1
                obtain rfl := Option.some.inj H
                go_wp2
                go_ret
                exact ⟨by first | rfl | (simp [errW_none, errW_some] <;> rfl) | (simp [*, errW_none, errW_some] <;> rfl), by repeat (first | (with_reducible first | exact HB.out | apply below_alloc | apply pw_below_drewN | apply below_drew1 | refine below_set ?_ GE167.out) | exact HB.out)⟩
            · replace c24 := Bool.eq_false_iff.mpr c24
              subst c24
              have H1 : (if a0_0 = 7 then (if x4_1 = true then (if ((l0_4.length : Int) == 0) = true then ((tree_is.f kj19 a0_3 3).bind fun t170 => (some t170)) else (some false)) else (some false)) else (if a0_0 = 8 then (if x4_1 = true then (if ((l0_4.length : Int) == 0) = true then (some (a0_3.toList == ([] : List UInt8))) else (some false)) else (some false)) else (if a0_0 = 3 then (if ((l0_4.length : Int) == 0) = true then (if a0_3.toList = ([] : List UInt8) then ((tree_verb.f kj19 a0_1).bind fun t171 => (if t171 = true then ((tree_adv.f a0_2 (⟨#[39, 47, 92, 96]⟩ : ByteArray)).bind fun t172 => (some t172)) else (some false))) else (some false)) else (some false)) else (if a0_0 = 4 then (if ((l0_4.length : Int) == 0) = true then (if a0_3.toList = ([] : List UInt8) then ((tree_verb.f kj19 a0_1).bind fun t173 => (if t173 = true then ((tree_adv.f a0_2 (⟨#[39, 46]⟩ : ByteArray)).bind fun t174 => (some t174)) else (some false))) else (some false)) else (some false)) else (some false))))) = some r := by rw [if_neg (show ¬ (false = true) by decide)] at H; exact H
              clear H
              have H := H1
              clear H1
              by_cases c30 : a0_0 = 7
              · rw [if_pos c30] at H
                have c30b0 : (a0_0 == 7) = true := beq_iff_eq.mpr c30
                have c30b1 : (a0_0 != 7) = false := bne_eq_false_iff_eq.mpr c30
                clear c30
                by_cases c31 : x4_1 = true
                · subst c31
                  have H1 : (if ((l0_4.length : Int) == 0) = true then ((tree_is.f kj19 a0_3 3).bind fun t170 => (some t170)) else (some false)) = some r := by rw [if_pos rfl] at H; exact H
                  clear H
                  have H := H1
                  clear H1
                  by_cases c32 : ((l0_4.length : Int) == 0) = true
                  · rw [if_pos c32] at H
                    have c32b0 : ((l0_4.length : Int) == 0) = true := c32
                    (try (have c32b1 : decide ((l0_4.length : Int) = 0) = true := by simpa using c32))
                    (try (have c32b2 : ((l0_4.length : Int) == 0) = true := by simpa using c32))
                    clear c32
                    replace H := Option.bind_eq_some_iff.mp H
                    obtain ⟨t170, A330, H⟩ := H
                    replace H : (some t170) = some r := H
                    have A33 := Aside0.mk A330
                    clear A330
                    obtain rfl := Option.some.inj H
                    have hcz34_0 : wc.cell? ⟨gb167, 0, none⟩ = some (.int .i64 a0_0) := (blk_cell BK167.out 0).trans rfl
                    have hcz34_1 : wc.cell? ⟨gb167, 1, none⟩ = some (.string a0_1) := (blk_cell BK167.out 1).trans rfl
                    have hcz34_2 : wc.cell? ⟨gb167, 2, none⟩ = some (.string a0_2) := (blk_cell BK167.out 2).trans rfl
                    have hcz34_3 : wc.cell? ⟨gb167, 3, none⟩ = some (.string a0_3) := (blk_cell BK167.out 3).trans rfl
                    have hcz34_4 : wc.cell? ⟨gb167, 4, none⟩ = some (.slice A0_4 l0_4.length c0_4) := (blk_cell BK167.out 4).trans rfl
                    have hfz34_0 := blk_frozen BK167.out 0
                    have hfz34_1 := blk_frozen BK167.out 1
                    have hfz34_2 := blk_frozen BK167.out 2
                    have hfz34_3 := blk_frozen BK167.out 3
                    have hfz34_4 := blk_frozen BK167.out 4
                    go_wp2_with (first | (go_at_call 58; (with_reducible refine (tree_is.calls kj19 a0_3 3 t170 _ A33.out).mono ?_); rintro e w35 ⟨rfl, hb⟩; have n0_ := Aside0.mk (blk_below (g := gb167) (o := .cells #[.int .i64 a0_0, .string a0_1, .string a0_2, .string a0_3, .slice A0_4 l0_4.length c0_4] 25 (0, 0)) (by (with_reducible repeat (first | refine blk_drewN ?_ _ | refine blk_drew ?_ | refine blk_alloc ?_ _)); exact BK167.out) hb); have n1_ := Aside0.mk (below_step (by repeat (first | (with_reducible first | exact HB.out | apply below_alloc | apply pw_below_drewN | apply below_drew1 | refine below_set ?_ GE167.out) | exact HB.out)) hb); clear BK167; clear HB; have BK167 := n0_; have HB := n1_; clear n0_ n1_; (try clear hb); (try clear hb2); (try clear hk); (try clear hi)))
                    go_ret
                    exact ⟨by first | rfl | (simp [errW_none, errW_some] <;> rfl) | (simp [*, errW_none, errW_some] <;> rfl), by repeat (first | (with_reducible first | exact HB.out | apply below_alloc | apply pw_below_drewN | apply below_drew1 | refine below_set ?_ GE167.out) | exact HB.out)⟩
                  · rw [if_neg c32] at H
                    have c32b0 : ((l0_4.length : Int) == 0) = false := by simpa using c32
                    (try (have c32b1 : decide ((l0_4.length : Int) = 0) = false := by simpa using c32))
                    (try (have c32b2 : ((l0_4.length : Int) == 0) = false := by simpa using c32))
                    (try (have c32b3 : ¬ ((l0_4.length : Int) = 0) := by simpa using c32))
                    clear c32
                    obtain rfl := Option.some.inj H
                    go_wp2
                    go_ret
                    exact ⟨by first | rfl | (simp [errW_none, errW_some] <;> rfl) | (simp [*, errW_none, errW_some] <;> rfl), by repeat (first | (with_reducible first | exact HB.out | apply below_alloc | apply pw_below_drewN | apply below_drew1 | refine below_set ?_ GE167.out) | exact HB.out)⟩
                · replace c31 := Bool.eq_false_iff.mpr c31
                  subst c31
                  have H1 : (some false) = some r := by rw [if_neg (show ¬ (false = true) by decide)] at H; exact H
                  clear H
                  have H := H1
                  clear H1
                  obtain rfl := Option.some.inj H
                  go_wp2
                  go_ret
                  exact ⟨by first | rfl | (simp [errW_none, errW_some] <;> rfl) | (simp [*, errW_none, errW_some] <;> rfl), by repeat (first | (with_reducible first | exact HB.out | apply below_alloc | apply pw_below_drewN | apply below_drew1 | refine below_set ?_ GE167.out) | exact HB.out)⟩
              · rw [if_neg c30] at H
                have c30b0 : (a0_0 == 7) = false := beq_eq_false_iff_ne.mpr c30
                have c30b1 : (a0_0 != 7) = true := bne_iff_ne.mpr c30
                by_cases c36 : a0_0 = 8
                · rw [if_pos c36] at H
                  have c36b0 : (a0_0 == 8) = true := beq_iff_eq.mpr c36
                  have c36b1 : (a0_0 != 8) = false := bne_eq_false_iff_eq.mpr c36
                  clear c36
                  by_cases c37 : x4_1 = true
                  · subst c37
                    have H1 : (if ((l0_4.length : Int) == 0) = true then (some (a0_3.toList == ([] : List UInt8))) else (some false)) = some r := by rw [if_pos rfl] at H; exact H
                    clear H
                    have H := H1
                    clear H1
                    by_cases c38 : ((l0_4.length : Int) == 0) = true
                    · rw [if_pos c38] at H
                      have c38b0 : ((l0_4.length : Int) == 0) = true := c38
                      (try (have c38b1 : decide ((l0_4.length : Int) = 0) = true := by simpa using c38))
                      (try (have c38b2 : ((l0_4.length : Int) == 0) = true := by simpa using c38))
                      clear c38
                      obtain rfl := Option.some.inj H
                      have hcz39_0 : wc.cell? ⟨gb167, 0, none⟩ = some (.int .i64 a0_0) := (blk_cell BK167.out 0).trans rfl
                      have hcz39_1 : wc.cell? ⟨gb167, 1, none⟩ = some (.string a0_1) := (blk_cell BK167.out 1).trans rfl
                      have hcz39_2 : wc.cell? ⟨gb167, 2, none⟩ = some (.string a0_2) := (blk_cell BK167.out 2).trans rfl
                      have hcz39_3 : wc.cell? ⟨gb167, 3, none⟩ = some (.string a0_3) := (blk_cell BK167.out 3).trans rfl
                      have hcz39_4 : wc.cell? ⟨gb167, 4, none⟩ = some (.slice A0_4 l0_4.length c0_4) := (blk_cell BK167.out 4).trans rfl
                      have hfz39_0 := blk_frozen BK167.out 0
                      have hfz39_1 := blk_frozen BK167.out 1
                      have hfz39_2 := blk_frozen BK167.out 2
                      have hfz39_3 := blk_frozen BK167.out 3
                      have hfz39_4 := blk_frozen BK167.out 4
                      go_wp2
                      go_ret
                      exact ⟨by first | rfl | (simp [errW_none, errW_some] <;> rfl) | (simp [*, errW_none, errW_some] <;> rfl), by repeat (first | (with_reducible first | exact HB.out | apply below_alloc | apply pw_below_drewN | apply below_drew1 | refine below_set ?_ GE167.out) | exact HB.out)⟩
                    · rw [if_neg c38] at H
                      have c38b0 : ((l0_4.length : Int) == 0) = false := by simpa using c38
                      (try (have c38b1 : decide ((l0_4.length : Int) = 0) = false := by simpa using c38))
                      (try (have c38b2 : ((l0_4.length : Int) == 0) = false := by simpa using c38))
                      (try (have c38b3 : ¬ ((l0_4.length : Int) = 0) := by simpa using c38))
                      clear c38
                      obtain rfl := Option.some.inj H
                      go_wp2
                      go_ret
                      exact ⟨by first | rfl | (simp [errW_none, errW_some] <;> rfl) | (simp [*, errW_none, errW_some] <;> rfl), by repeat (first | (with_reducible first | exact HB.out | apply below_alloc | apply pw_below_drewN | apply below_drew1 | refine below_set ?_ GE167.out) | exact HB.out)⟩
                  · replace c37 := Bool.eq_false_iff.mpr c37
                    subst c37
                    have H1 : (some false) = some r := by rw [if_neg (show ¬ (false = true) by decide)] at H; exact H
                    clear H
                    have H := H1
                    clear H1
                    obtain rfl := Option.some.inj H
                    go_wp2
                    go_ret
                    exact ⟨by first | rfl | (simp [errW_none, errW_some] <;> rfl) | (simp [*, errW_none, errW_some] <;> rfl), by repeat (first | (with_reducible first | exact HB.out | apply below_alloc | apply pw_below_drewN | apply below_drew1 | refine below_set ?_ GE167.out) | exact HB.out)⟩
                · rw [if_neg c36] at H
                  have c36b0 : (a0_0 == 8) = false := beq_eq_false_iff_ne.mpr c36
                  have c36b1 : (a0_0 != 8) = true := bne_iff_ne.mpr c36
                  by_cases c40 : a0_0 = 3
                  · rw [if_pos c40] at H
                    have c40b0 : (a0_0 == 3) = true := beq_iff_eq.mpr c40
                    have c40b1 : (a0_0 != 3) = false := bne_eq_false_iff_eq.mpr c40
                    clear c40
                    by_cases c41 : ((l0_4.length : Int) == 0) = true
                    · rw [if_pos c41] at H
                      have c41b0 : ((l0_4.length : Int) == 0) = true := c41
                      (try (have c41b1 : decide ((l0_4.length : Int) = 0) = true := by simpa using c41))
                      (try (have c41b2 : ((l0_4.length : Int) == 0) = true := by simpa using c41))
                      clear c41
                      by_cases c42 : a0_3.toList = ([] : List UInt8)
                      · rw [if_pos c42] at H
                        have c42b0 : (a0_3.toList == ([] : List UInt8)) = true := beq_iff_eq.mpr c42
                        have c42b1 : (a0_3.toList != ([] : List UInt8)) = false := bne_eq_false_iff_eq.mpr c42
                        clear c42
                        replace H := Option.bind_eq_some_iff.mp H
                        obtain ⟨t171, A430, H⟩ := H
                        replace H : (if t171 = true then ((tree_adv.f a0_2 (⟨#[39, 47, 92, 96]⟩ : ByteArray)).bind fun t172 => (some t172)) else (some false)) = some r := H
                        have A43 := Aside0.mk A430
                        clear A430
                        by_cases c44 : t171 = true
                        · subst c44
                          have H1 : ((tree_adv.f a0_2 (⟨#[39, 47, 92, 96]⟩ : ByteArray)).bind fun t172 => (some t172)) = some r := by rw [if_pos rfl] at H; exact H
                          clear H
                          have H := H1
                          clear H1
                          replace H := Option.bind_eq_some_iff.mp H
                          obtain ⟨t172, A450, H⟩ := H
                          replace H : (some t172) = some r := H
                          have A45 := Aside0.mk A450
                          clear A450
                          obtain rfl := Option.some.inj H
                          have hcz46_0 : wc.cell? ⟨gb167, 0, none⟩ = some (.int .i64 a0_0) := (blk_cell BK167.out 0).trans rfl
                          have hcz46_1 : wc.cell? ⟨gb167, 1, none⟩ = some (.string a0_1) := (blk_cell BK167.out 1).trans rfl
                          have hcz46_2 : wc.cell? ⟨gb167, 2, none⟩ = some (.string a0_2) := (blk_cell BK167.out 2).trans rfl
                          have hcz46_3 : wc.cell? ⟨gb167, 3, none⟩ = some (.string a0_3) := (blk_cell BK167.out 3).trans rfl
                          have hcz46_4 : wc.cell? ⟨gb167, 4, none⟩ = some (.slice A0_4 l0_4.length c0_4) := (blk_cell BK167.out 4).trans rfl
                          have hfz46_0 := blk_frozen BK167.out 0
                          have hfz46_1 := blk_frozen BK167.out 1
                          have hfz46_2 := blk_frozen BK167.out 2
                          have hfz46_3 := blk_frozen BK167.out 3
                          have hfz46_4 := blk_frozen BK167.out 4
                          go_wp2_with (first | (go_at_call 59; (with_reducible refine (tree_verb.calls kj19 a0_1 true _ A43.out).mono ?_); rintro e w47 ⟨rfl, hb⟩; have n0_ := Aside0.mk (blk_below (g := gb167) (o := .cells #[.int .i64 a0_0, .string a0_1, .string a0_2, .string a0_3, .slice A0_4 l0_4.length c0_4] 25 (0, 0)) (by (with_reducible repeat (first | refine blk_drewN ?_ _ | refine blk_drew ?_ | refine blk_alloc ?_ _)); exact BK167.out) hb); have n1_ := Aside0.mk (below_step (by repeat (first | (with_reducible first | exact HB.out | apply below_alloc | apply pw_below_drewN | apply below_drew1 | refine below_set ?_ GE167.out) | exact HB.out)) hb); clear BK167; clear HB; have BK167 := n0_; have HB := n1_; clear n0_ n1_; (try clear hb); (try clear hb2); (try clear hk); (try clear hi); have hcz48_0 : w47.cell? ⟨gb167, 0, none⟩ = some (.int .i64 a0_0) := (blk_cell BK167.out 0).trans rfl; have hcz48_1 : w47.cell? ⟨gb167, 1, none⟩ = some (.string a0_1) := (blk_cell BK167.out 1).trans rfl; have hcz48_2 : w47.cell? ⟨gb167, 2, none⟩ = some (.string a0_2) := (blk_cell BK167.out 2).trans rfl; have hcz48_3 : w47.cell? ⟨gb167, 3, none⟩ = some (.string a0_3) := (blk_cell BK167.out 3).trans rfl; have hcz48_4 : w47.cell? ⟨gb167, 4, none⟩ = some (.slice A0_4 l0_4.length c0_4) := (blk_cell BK167.out 4).trans rfl; have hfz48_0 := blk_frozen BK167.out 0; have hfz48_1 := blk_frozen BK167.out 1; have hfz48_2 := blk_frozen BK167.out 2; have hfz48_3 := blk_frozen BK167.out 3; have hfz48_4 := blk_frozen BK167.out 4) | (go_at_call 60; (with_reducible refine (tree_adv.calls a0_2 (⟨#[39, 47, 92, 96]⟩ : ByteArray) t172 _ A45.out).mono ?_); rintro e w' ⟨rfl, ⟨nd, rfl⟩⟩))
                          go_ret
                          exact ⟨by first | rfl | (simp [errW_none, errW_some] <;> rfl) | (simp [*, errW_none, errW_some] <;> rfl), by repeat (first | (with_reducible first | exact HB.out | apply below_alloc | apply pw_below_drewN | apply below_drew1 | refine below_set ?_ GE167.out) | exact HB.out)⟩
                        · replace c44 := Bool.eq_false_iff.mpr c44
                          subst c44
                          have H1 : (some false) = some r := by rw [if_neg (show ¬ (false = true) by decide)] at H; exact H
                          clear H
                          have H := H1
                          clear H1
                          obtain rfl := Option.some.inj H
                          have hcz49_0 : wc.cell? ⟨gb167, 0, none⟩ = some (.int .i64 a0_0) := (blk_cell BK167.out 0).trans rfl
                          have hcz49_1 : wc.cell? ⟨gb167, 1, none⟩ = some (.string a0_1) := (blk_cell BK167.out 1).trans rfl
                          have hcz49_2 : wc.cell? ⟨gb167, 2, none⟩ = some (.string a0_2) := (blk_cell BK167.out 2).trans rfl
                          have hcz49_3 : wc.cell? ⟨gb167, 3, none⟩ = some (.string a0_3) := (blk_cell BK167.out 3).trans rfl
                          have hcz49_4 : wc.cell? ⟨gb167, 4, none⟩ = some (.slice A0_4 l0_4.length c0_4) := (blk_cell BK167.out 4).trans rfl
                          have hfz49_0 := blk_frozen BK167.out 0
                          have hfz49_1 := blk_frozen BK167.out 1
                          have hfz49_2 := blk_frozen BK167.out 2
                          have hfz49_3 := blk_frozen BK167.out 3
                          have hfz49_4 := blk_frozen BK167.out 4
                          go_wp2_with (first | (go_at_call 59; (with_reducible refine (tree_verb.calls kj19 a0_1 false _ A43.out).mono ?_); rintro e w50 ⟨rfl, hb⟩; have n0_ := Aside0.mk (blk_below (g := gb167) (o := .cells #[.int .i64 a0_0, .string a0_1, .string a0_2, .string a0_3, .slice A0_4 l0_4.length c0_4] 25 (0, 0)) (by (with_reducible repeat (first | refine blk_drewN ?_ _ | refine blk_drew ?_ | refine blk_alloc ?_ _)); exact BK167.out) hb); have n1_ := Aside0.mk (below_step (by repeat (first | (with_reducible first | exact HB.out | apply below_alloc | apply pw_below_drewN | apply below_drew1 | refine below_set ?_ GE167.out) | exact HB.out)) hb); clear BK167; clear HB; have BK167 := n0_; have HB := n1_; clear n0_ n1_; (try clear hb); (try clear hb2); (try clear hk); (try clear hi)))
                          go_ret
                          exact ⟨by first | rfl | (simp [errW_none, errW_some] <;> rfl) | (simp [*, errW_none, errW_some] <;> rfl), by repeat (first | (with_reducible first | exact HB.out | apply below_alloc | apply pw_below_drewN | apply below_drew1 | refine below_set ?_ GE167.out) | exact HB.out)⟩
                      · rw [if_neg c42] at H
                        have c42b0 : (a0_3.toList == ([] : List UInt8)) = false := beq_eq_false_iff_ne.mpr c42
                        have c42b1 : (a0_3.toList != ([] : List UInt8)) = true := bne_iff_ne.mpr c42
                        obtain rfl := Option.some.inj H
                        have hcz51_0 : wc.cell? ⟨gb167, 0, none⟩ = some (.int .i64 a0_0) := (blk_cell BK167.out 0).trans rfl
                        have hcz51_1 : wc.cell? ⟨gb167, 1, none⟩ = some (.string a0_1) := (blk_cell BK167.out 1).trans rfl
                        have hcz51_2 : wc.cell? ⟨gb167, 2, none⟩ = some (.string a0_2) := (blk_cell BK167.out 2).trans rfl
                        have hcz51_3 : wc.cell? ⟨gb167, 3, none⟩ = some (.string a0_3) := (blk_cell BK167.out 3).trans rfl
                        have hcz51_4 : wc.cell? ⟨gb167, 4, none⟩ = some (.slice A0_4 l0_4.length c0_4) := (blk_cell BK167.out 4).trans rfl
                        have hfz51_0 := blk_frozen BK167.out 0
                        have hfz51_1 := blk_frozen BK167.out 1
                        have hfz51_2 := blk_frozen BK167.out 2
                        have hfz51_3 := blk_frozen BK167.out 3
                        have hfz51_4 := blk_frozen BK167.out 4
                        go_wp2
                        go_ret
                        exact ⟨by first | rfl | (simp [errW_none, errW_some] <;> rfl) | (simp [*, errW_none, errW_some] <;> rfl), by repeat (first | (with_reducible first | exact HB.out | apply below_alloc | apply pw_below_drewN | apply below_drew1 | refine below_set ?_ GE167.out) | exact HB.out)⟩
                    · rw [if_neg c41] at H
                      have c41b0 : ((l0_4.length : Int) == 0) = false := by simpa using c41
                      (try (have c41b1 : decide ((l0_4.length : Int) = 0) = false := by simpa using c41))
                      (try (have c41b2 : ((l0_4.length : Int) == 0) = false := by simpa using c41))
                      (try (have c41b3 : ¬ ((l0_4.length : Int) = 0) := by simpa using c41))
                      clear c41
                      obtain rfl := Option.some.inj H
                      go_wp2
                      go_ret
                      exact ⟨by first | rfl | (simp [errW_none, errW_some] <;> rfl) | (simp [*, errW_none, errW_some] <;> rfl), by repeat (first | (with_reducible first | exact HB.out | apply below_alloc | apply pw_below_drewN | apply below_drew1 | refine below_set ?_ GE167.out) | exact HB.out)⟩
                  · rw [if_neg c40] at H
                    have c40b0 : (a0_0 == 3) = false := beq_eq_false_iff_ne.mpr c40
                    have c40b1 : (a0_0 != 3) = true := bne_iff_ne.mpr c40
                    by_cases c52 : a0_0 = 4
                    · rw [if_pos c52] at H
                      have c52b0 : (a0_0 == 4) = true := beq_iff_eq.mpr c52
                      have c52b1 : (a0_0 != 4) = false := bne_eq_false_iff_eq.mpr c52
                      clear c52
                      by_cases c53 : ((l0_4.length : Int) == 0) = true
                      · rw [if_pos c53] at H
                        have c53b0 : ((l0_4.length : Int) == 0) = true := c53
                        (try (have c53b1 : decide ((l0_4.length : Int) = 0) = true := by simpa using c53))
                        (try (have c53b2 : ((l0_4.length : Int) == 0) = true := by simpa using c53))
                        clear c53
                        by_cases c54 : a0_3.toList = ([] : List UInt8)
                        · rw [if_pos c54] at H
                          have c54b0 : (a0_3.toList == ([] : List UInt8)) = true := beq_iff_eq.mpr c54
                          have c54b1 : (a0_3.toList != ([] : List UInt8)) = false := bne_eq_false_iff_eq.mpr c54
                          clear c54
                          replace H := Option.bind_eq_some_iff.mp H
                          obtain ⟨t173, A550, H⟩ := H
                          replace H : (if t173 = true then ((tree_adv.f a0_2 (⟨#[39, 46]⟩ : ByteArray)).bind fun t174 => (some t174)) else (some false)) = some r := H
                          have A55 := Aside0.mk A550
                          clear A550
                          by_cases c56 : t173 = true
                          · subst c56
                            have H1 : ((tree_adv.f a0_2 (⟨#[39, 46]⟩ : ByteArray)).bind fun t174 => (some t174)) = some r := by rw [if_pos rfl] at H; exact H
                            clear H
                            have H := H1
                            clear H1
                            replace H := Option.bind_eq_some_iff.mp H
                            obtain ⟨t174, A570, H⟩ := H
                            replace H : (some t174) = some r := H
                            have A57 := Aside0.mk A570
                            clear A570
                            obtain rfl := Option.some.inj H
                            have hcz58_0 : wc.cell? ⟨gb167, 0, none⟩ = some (.int .i64 a0_0) := (blk_cell BK167.out 0).trans rfl
                            have hcz58_1 : wc.cell? ⟨gb167, 1, none⟩ = some (.string a0_1) := (blk_cell BK167.out 1).trans rfl
                            have hcz58_2 : wc.cell? ⟨gb167, 2, none⟩ = some (.string a0_2) := (blk_cell BK167.out 2).trans rfl
                            have hcz58_3 : wc.cell? ⟨gb167, 3, none⟩ = some (.string a0_3) := (blk_cell BK167.out 3).trans rfl
                            have hcz58_4 : wc.cell? ⟨gb167, 4, none⟩ = some (.slice A0_4 l0_4.length c0_4) := (blk_cell BK167.out 4).trans rfl
                            have hfz58_0 := blk_frozen BK167.out 0
                            have hfz58_1 := blk_frozen BK167.out 1
                            have hfz58_2 := blk_frozen BK167.out 2
                            have hfz58_3 := blk_frozen BK167.out 3
                            have hfz58_4 := blk_frozen BK167.out 4
                            go_wp2_with (first | (go_at_call 59; (with_reducible refine (tree_verb.calls kj19 a0_1 true _ A55.out).mono ?_); rintro e w59 ⟨rfl, hb⟩; have n0_ := Aside0.mk (blk_below (g := gb167) (o := .cells #[.int .i64 a0_0, .string a0_1, .string a0_2, .string a0_3, .slice A0_4 l0_4.length c0_4] 25 (0, 0)) (by (with_reducible repeat (first | refine blk_drewN ?_ _ | refine blk_drew ?_ | refine blk_alloc ?_ _)); exact BK167.out) hb); have n1_ := Aside0.mk (below_step (by repeat (first | (with_reducible first | exact HB.out | apply below_alloc | apply pw_below_drewN | apply below_drew1 | refine below_set ?_ GE167.out) | exact HB.out)) hb); clear BK167; clear HB; have BK167 := n0_; have HB := n1_; clear n0_ n1_; (try clear hb); (try clear hb2); (try clear hk); (try clear hi); have hcz60_0 : w59.cell? ⟨gb167, 0, none⟩ = some (.int .i64 a0_0) := (blk_cell BK167.out 0).trans rfl; have hcz60_1 : w59.cell? ⟨gb167, 1, none⟩ = some (.string a0_1) := (blk_cell BK167.out 1).trans rfl; have hcz60_2 : w59.cell? ⟨gb167, 2, none⟩ = some (.string a0_2) := (blk_cell BK167.out 2).trans rfl; have hcz60_3 : w59.cell? ⟨gb167, 3, none⟩ = some (.string a0_3) := (blk_cell BK167.out 3).trans rfl; have hcz60_4 : w59.cell? ⟨gb167, 4, none⟩ = some (.slice A0_4 l0_4.length c0_4) := (blk_cell BK167.out 4).trans rfl; have hfz60_0 := blk_frozen BK167.out 0; have hfz60_1 := blk_frozen BK167.out 1; have hfz60_2 := blk_frozen BK167.out 2; have hfz60_3 := blk_frozen BK167.out 3; have hfz60_4 := blk_frozen BK167.out 4) | (go_at_call 60; (with_reducible refine (tree_adv.calls a0_2 (⟨#[39, 46]⟩ : ByteArray) t174 _ A57.out).mono ?_); rintro e w' ⟨rfl, ⟨nd, rfl⟩⟩))
                            go_ret
                            exact ⟨by first | rfl | (simp [errW_none, errW_some] <;> rfl) | (simp [*, errW_none, errW_some] <;> rfl), by repeat (first | (with_reducible first | exact HB.out | apply below_alloc | apply pw_below_drewN | apply below_drew1 | refine below_set ?_ GE167.out) | exact HB.out)⟩
                          · replace c56 := Bool.eq_false_iff.mpr c56
                            subst c56
                            have H1 : (some false) = some r := by rw [if_neg (show ¬ (false = true) by decide)] at H; exact H
                            clear H
                            have H := H1
                            clear H1
                            obtain rfl := Option.some.inj H
                            have hcz61_0 : wc.cell? ⟨gb167, 0, none⟩ = some (.int .i64 a0_0) := (blk_cell BK167.out 0).trans rfl
                            have hcz61_1 : wc.cell? ⟨gb167, 1, none⟩ = some (.string a0_1) := (blk_cell BK167.out 1).trans rfl
                            have hcz61_2 : wc.cell? ⟨gb167, 2, none⟩ = some (.string a0_2) := (blk_cell BK167.out 2).trans rfl
                            have hcz61_3 : wc.cell? ⟨gb167, 3, none⟩ = some (.string a0_3) := (blk_cell BK167.out 3).trans rfl
                            have hcz61_4 : wc.cell? ⟨gb167, 4, none⟩ = some (.slice A0_4 l0_4.length c0_4) := (blk_cell BK167.out 4).trans rfl
                            have hfz61_0 := blk_frozen BK167.out 0
                            have hfz61_1 := blk_frozen BK167.out 1
                            have hfz61_2 := blk_frozen BK167.out 2
                            have hfz61_3 := blk_frozen BK167.out 3
                            have hfz61_4 := blk_frozen BK167.out 4
                            go_wp2_with (first | (go_at_call 59; (with_reducible refine (tree_verb.calls kj19 a0_1 false _ A55.out).mono ?_); rintro e w62 ⟨rfl, hb⟩; have n0_ := Aside0.mk (blk_below (g := gb167) (o := .cells #[.int .i64 a0_0, .string a0_1, .string a0_2, .string a0_3, .slice A0_4 l0_4.length c0_4] 25 (0, 0)) (by (with_reducible repeat (first | refine blk_drewN ?_ _ | refine blk_drew ?_ | refine blk_alloc ?_ _)); exact BK167.out) hb); have n1_ := Aside0.mk (below_step (by repeat (first | (with_reducible first | exact HB.out | apply below_alloc | apply pw_below_drewN | apply below_drew1 | refine below_set ?_ GE167.out) | exact HB.out)) hb); clear BK167; clear HB; have BK167 := n0_; have HB := n1_; clear n0_ n1_; (try clear hb); (try clear hb2); (try clear hk); (try clear hi)))
                            go_ret
                            exact ⟨by first | rfl | (simp [errW_none, errW_some] <;> rfl) | (simp [*, errW_none, errW_some] <;> rfl), by repeat (first | (with_reducible first | exact HB.out | apply below_alloc | apply pw_below_drewN | apply below_drew1 | refine below_set ?_ GE167.out) | exact HB.out)⟩
                        · rw [if_neg c54] at H
                          have c54b0 : (a0_3.toList == ([] : List UInt8)) = false := beq_eq_false_iff_ne.mpr c54
                          have c54b1 : (a0_3.toList != ([] : List UInt8)) = true := bne_iff_ne.mpr c54
                          obtain rfl := Option.some.inj H
                          have hcz63_0 : wc.cell? ⟨gb167, 0, none⟩ = some (.int .i64 a0_0) := (blk_cell BK167.out 0).trans rfl
                          have hcz63_1 : wc.cell? ⟨gb167, 1, none⟩ = some (.string a0_1) := (blk_cell BK167.out 1).trans rfl
                          have hcz63_2 : wc.cell? ⟨gb167, 2, none⟩ = some (.string a0_2) := (blk_cell BK167.out 2).trans rfl
                          have hcz63_3 : wc.cell? ⟨gb167, 3, none⟩ = some (.string a0_3) := (blk_cell BK167.out 3).trans rfl
                          have hcz63_4 : wc.cell? ⟨gb167, 4, none⟩ = some (.slice A0_4 l0_4.length c0_4) := (blk_cell BK167.out 4).trans rfl
                          have hfz63_0 := blk_frozen BK167.out 0
                          have hfz63_1 := blk_frozen BK167.out 1
                          have hfz63_2 := blk_frozen BK167.out 2
                          have hfz63_3 := blk_frozen BK167.out 3
                          have hfz63_4 := blk_frozen BK167.out 4
                          go_wp2
                          go_ret
                          exact ⟨by first | rfl | (simp [errW_none, errW_some] <;> rfl) | (simp [*, errW_none, errW_some] <;> rfl), by repeat (first | (with_reducible first | exact HB.out | apply below_alloc | apply pw_below_drewN | apply below_drew1 | refine below_set ?_ GE167.out) | exact HB.out)⟩
                      · rw [if_neg c53] at H
                        have c53b0 : ((l0_4.length : Int) == 0) = false := by simpa using c53
                        (try (have c53b1 : decide ((l0_4.length : Int) = 0) = false := by simpa using c53))
                        (try (have c53b2 : ((l0_4.length : Int) == 0) = false := by simpa using c53))
                        (try (have c53b3 : ¬ ((l0_4.length : Int) = 0) := by simpa using c53))
                        clear c53
                        obtain rfl := Option.some.inj H
                        go_wp2
                        go_ret
                        exact ⟨by first | rfl | (simp [errW_none, errW_some] <;> rfl) | (simp [*, errW_none, errW_some] <;> rfl), by repeat (first | (with_reducible first | exact HB.out | apply below_alloc | apply pw_below_drewN | apply below_drew1 | refine below_set ?_ GE167.out) | exact HB.out)⟩
                    · rw [if_neg c52] at H
                      have c52b0 : (a0_0 == 4) = false := beq_eq_false_iff_ne.mpr c52
                      have c52b1 : (a0_0 != 4) = true := bne_iff_ne.mpr c52
                      obtain rfl := Option.some.inj H
                      go_wp2
                      go_ret
                      exact ⟨by first | rfl | (simp [errW_none, errW_some] <;> rfl) | (simp [*, errW_none, errW_some] <;> rfl), by repeat (first | (with_reducible first | exact HB.out | apply below_alloc | apply pw_below_drewN | apply below_drew1 | refine below_set ?_ GE167.out) | exact HB.out)⟩

end Go.Proofs.Ytdelccahgchadaa.P
