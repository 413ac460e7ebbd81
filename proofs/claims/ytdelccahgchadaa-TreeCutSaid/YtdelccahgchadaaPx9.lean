/- Walks, written by a program out of the translation. -/
import Derived.Test.YtdelccahgchadaaPx0
import Derived.Test.YtdelccahgchadaaPx3
import Derived.Test.YtdelccahgchadaaPx4
import Derived.Test.YtdelccahgchadaaPx8
import Derived.Test.YtdelccahgchadaaGBase
import Derived.Test.YtdelccahgchadaaGLex
import Derived.Test.YtdelccahgchadaaGTree
namespace Go.Proofs.Ytdelccahgchadaa.P
open Go.RowKit Go.Proofs.YtdelccahgchadaaW.PrintWords Go.Proofs.YtdelccahgchadaaW.PrintLast Go.Proofs.YtdelccahgchadaaW.PrintMore
attribute [local go_sem] max2_int min2_int max_two min_two max_three min_three max_four min_four   -- for this text's walks alone
set_option linter.unusedVariables false
set_option linter.unusedSimpArgs false

/-! ### tree_head: function 43 -/
def tree_head.f (a0_0 : Int) (a0_1 : ByteArray) (a0_2 : ByteArray) (a0_3 : ByteArray) (l0_4 : List ByteArray) : Option (Bool) := if a0_0 = 5 then (some true) else (if a0_0 = 6 then (some true) else (some (a0_0 == 7)))
set_option maxHeartbeats 8000000 in
set_option maxRecDepth 100000 in
theorem tree_head.calls (a0_0 : Int) (a0_1 : ByteArray) (a0_2 : ByteArray) (a0_3 : ByteArray) (A0_4 : Option Addr) (c0_4 : Nat) (l0_4 : List ByteArray) (r : Bool) (w : World) (hr0_4 : Kd.C Kd.string w A0_4 l0_4.length l0_4) (hc0_4 : l0_4.length ≤ c0_4) (h : tree_head.f a0_0 a0_1 a0_2 a0_3 l0_4 = some r) :
    Calls Try.prog 43 #[.agg #[.int .i64 a0_0, .string a0_1, .string a0_2, .string a0_3, .slice A0_4 l0_4.length c0_4]] w fun e w' => e = .returned (.bool r) ∧ Below w.heap.size w w' := by
  have hu25 := Try.underlying25
  have HR0_4 := Aside0.mk hr0_4
  have HC0_4 := Aside0.mk hc0_4
  clear hr0_4 hc0_4
  have HB := Aside0.mk (Below.refl w.heap.size w)
  have H : (if a0_0 = 5 then (some true) else (if a0_0 = 6 then (some true) else (some (a0_0 == 7)))) = some r := h
  clear h
  by_cases c2 : a0_0 = 5
  · rw [if_pos c2] at H
    have c2b0 : (a0_0 == 5) = true := beq_iff_eq.mpr c2
    have c2b1 : (a0_0 != 5) = false := bne_eq_false_iff_eq.mpr c2
    clear c2
    obtain rfl := Option.some.inj H
    go_enter Try.func43, Try.ntmps43
    go_wp2_with (first | ((with_reducible refine gate_dst (N := 1) rfl ?_); refine box_event ?hg (N := 1) ?hd (cs := #[.int .i64 a0_0, .string a0_1, .string a0_2, .string a0_3, .slice A0_4 l0_4.length c0_4]) (t := 25) ?hr ?_; (case hd => rfl); (case hg => rfl); (case hr => first | (go_simp; done) | (go_simp; rfl)); intro gb175 hg w3 hbox hb; have n0_ := Aside0.mk (below_step (by repeat (first | (with_reducible first | exact HB.out | apply below_alloc | apply pw_below_drewN | apply below_drew1) | exact HB.out)) hb); have n1_ := Aside0.mk (hbox); have n2_ := Aside0.mk ((by rw [hg]; exact (below_size (by repeat (first | (with_reducible first | exact HB.out | apply below_alloc | apply pw_below_drewN | apply below_drew1) | exact HB.out))) : w.heap.size ≤ gb175)); have n3_ := Aside0.mk ((by rw [hg]; exact (below_size (by repeat (first | (with_reducible first | exact HB.out | apply below_alloc | apply pw_below_drewN | apply below_drew1) | exact HB.out))) : w.heap.size ≤ gb175)); clear HB; have HB := n0_; have BK175 := n1_; have GW175 := n2_; have GE175 := n3_; clear n0_ n1_ n2_ n3_; clear hb hbox hg; have hcz4_0 : w3.cell? ⟨gb175, 0, none⟩ = some (.int .i64 a0_0) := (blk_cell BK175.out 0).trans rfl; have hcz4_1 : w3.cell? ⟨gb175, 1, none⟩ = some (.string a0_1) := (blk_cell BK175.out 1).trans rfl; have hcz4_2 : w3.cell? ⟨gb175, 2, none⟩ = some (.string a0_2) := (blk_cell BK175.out 2).trans rfl; have hcz4_3 : w3.cell? ⟨gb175, 3, none⟩ = some (.string a0_3) := (blk_cell BK175.out 3).trans rfl; have hcz4_4 : w3.cell? ⟨gb175, 4, none⟩ = some (.slice A0_4 l0_4.length c0_4) := (blk_cell BK175.out 4).trans rfl; have hfz4_0 := blk_frozen BK175.out 0; have hfz4_1 := blk_frozen BK175.out 1; have hfz4_2 := blk_frozen BK175.out 2; have hfz4_3 := blk_frozen BK175.out 3; have hfz4_4 := blk_frozen BK175.out 4))
    go_ret
    exact ⟨by first | rfl | (simp [errW_none, errW_some] <;> rfl) | (simp [*, errW_none, errW_some] <;> rfl), by repeat (first | (with_reducible first | exact HB.out | apply below_alloc | apply pw_below_drewN | apply below_drew1 | refine below_set ?_ GE175.out) | exact HB.out)⟩
  · rw [if_neg c2] at H
    have c2b0 : (a0_0 == 5) = false := beq_eq_false_iff_ne.mpr c2
    have c2b1 : (a0_0 != 5) = true := bne_iff_ne.mpr c2
    by_cases c5 : a0_0 = 6
    · rw [if_pos c5] at H
      have c5b0 : (a0_0 == 6) = true := beq_iff_eq.mpr c5
      have c5b1 : (a0_0 != 6) = false := bne_eq_false_iff_eq.mpr c5
      clear c5
      obtain rfl := Option.some.inj H
      go_enter Try.func43, Try.ntmps43
      go_wp2_with (first | ((with_reducible refine gate_dst (N := 1) rfl ?_); refine box_event ?hg (N := 1) ?hd (cs := #[.int .i64 a0_0, .string a0_1, .string a0_2, .string a0_3, .slice A0_4 l0_4.length c0_4]) (t := 25) ?hr ?_; (case hd => rfl); (case hg => rfl); (case hr => first | (go_simp; done) | (go_simp; rfl)); intro gb175 hg w6 hbox hb; have n0_ := Aside0.mk (below_step (by repeat (first | (with_reducible first | exact HB.out | apply below_alloc | apply pw_below_drewN | apply below_drew1) | exact HB.out)) hb); have n1_ := Aside0.mk (hbox); have n2_ := Aside0.mk ((by rw [hg]; exact (below_size (by repeat (first | (with_reducible first | exact HB.out | apply below_alloc | apply pw_below_drewN | apply below_drew1) | exact HB.out))) : w.heap.size ≤ gb175)); have n3_ := Aside0.mk ((by rw [hg]; exact (below_size (by repeat (first | (with_reducible first | exact HB.out | apply below_alloc | apply pw_below_drewN | apply below_drew1) | exact HB.out))) : w.heap.size ≤ gb175)); clear HB; have HB := n0_; have BK175 := n1_; have GW175 := n2_; have GE175 := n3_; clear n0_ n1_ n2_ n3_; clear hb hbox hg; have hcz7_0 : w6.cell? ⟨gb175, 0, none⟩ = some (.int .i64 a0_0) := (blk_cell BK175.out 0).trans rfl; have hcz7_1 : w6.cell? ⟨gb175, 1, none⟩ = some (.string a0_1) := (blk_cell BK175.out 1).trans rfl; have hcz7_2 : w6.cell? ⟨gb175, 2, none⟩ = some (.string a0_2) := (blk_cell BK175.out 2).trans rfl; have hcz7_3 : w6.cell? ⟨gb175, 3, none⟩ = some (.string a0_3) := (blk_cell BK175.out 3).trans rfl; have hcz7_4 : w6.cell? ⟨gb175, 4, none⟩ = some (.slice A0_4 l0_4.length c0_4) := (blk_cell BK175.out 4).trans rfl; have hfz7_0 := blk_frozen BK175.out 0; have hfz7_1 := blk_frozen BK175.out 1; have hfz7_2 := blk_frozen BK175.out 2; have hfz7_3 := blk_frozen BK175.out 3; have hfz7_4 := blk_frozen BK175.out 4))
      go_ret
      exact ⟨by first | rfl | (simp [errW_none, errW_some] <;> rfl) | (simp [*, errW_none, errW_some] <;> rfl), by repeat (first | (with_reducible first | exact HB.out | apply below_alloc | apply pw_below_drewN | apply below_drew1 | refine below_set ?_ GE175.out) | exact HB.out)⟩
    · rw [if_neg c5] at H
      have c5b0 : (a0_0 == 6) = false := beq_eq_false_iff_ne.mpr c5
      have c5b1 : (a0_0 != 6) = true := bne_iff_ne.mpr c5
      obtain rfl := Option.some.inj H
      go_enter Try.func43, Try.ntmps43
      go_wp2_with (first | ((with_reducible refine gate_dst (N := 1) rfl ?_); refine box_event ?hg (N := 1) ?hd (cs := #[.int .i64 a0_0, .string a0_1, .string a0_2, .string a0_3, .slice A0_4 l0_4.length c0_4]) (t := 25) ?hr ?_; (case hd => rfl); (case hg => rfl); (case hr => first | (go_simp; done) | (go_simp; rfl)); intro gb175 hg w8 hbox hb; have n0_ := Aside0.mk (below_step (by repeat (first | (with_reducible first | exact HB.out | apply below_alloc | apply pw_below_drewN | apply below_drew1) | exact HB.out)) hb); have n1_ := Aside0.mk (hbox); have n2_ := Aside0.mk ((by rw [hg]; exact (below_size (by repeat (first | (with_reducible first | exact HB.out | apply below_alloc | apply pw_below_drewN | apply below_drew1) | exact HB.out))) : w.heap.size ≤ gb175)); have n3_ := Aside0.mk ((by rw [hg]; exact (below_size (by repeat (first | (with_reducible first | exact HB.out | apply below_alloc | apply pw_below_drewN | apply below_drew1) | exact HB.out))) : w.heap.size ≤ gb175)); clear HB; have HB := n0_; have BK175 := n1_; have GW175 := n2_; have GE175 := n3_; clear n0_ n1_ n2_ n3_; clear hb hbox hg; have hcz9_0 : w8.cell? ⟨gb175, 0, none⟩ = some (.int .i64 a0_0) := (blk_cell BK175.out 0).trans rfl; have hcz9_1 : w8.cell? ⟨gb175, 1, none⟩ = some (.string a0_1) := (blk_cell BK175.out 1).trans rfl; have hcz9_2 : w8.cell? ⟨gb175, 2, none⟩ = some (.string a0_2) := (blk_cell BK175.out 2).trans rfl; have hcz9_3 : w8.cell? ⟨gb175, 3, none⟩ = some (.string a0_3) := (blk_cell BK175.out 3).trans rfl; have hcz9_4 : w8.cell? ⟨gb175, 4, none⟩ = some (.slice A0_4 l0_4.length c0_4) := (blk_cell BK175.out 4).trans rfl; have hfz9_0 := blk_frozen BK175.out 0; have hfz9_1 := blk_frozen BK175.out 1; have hfz9_2 := blk_frozen BK175.out 2; have hfz9_3 := blk_frozen BK175.out 3; have hfz9_4 := blk_frozen BK175.out 4))
      go_ret
      exact ⟨by first | rfl | (simp [errW_none, errW_some] <;> rfl) | (simp [*, errW_none, errW_some] <;> rfl), by repeat (first | (with_reducible first | exact HB.out | apply below_alloc | apply pw_below_drewN | apply below_drew1 | refine below_set ?_ GE175.out) | exact HB.out)⟩

/-! ### tree_May: function 28 -/
mutual
def tree_May.j0 : Nat → List (S25) → Bool → Option (Bool)
  | 0, _, _ => none
  | k + 1, x0, x24 => if x24 = true then (some false) else (tree_May.l0 k x0 (x0.length : Int) 0)
def tree_May.l0 : Nat → List (S25) → Int → Int → Option (Bool)
  | 0, _, _, _ => none
  | k + 1, x25, x26, x27 => if x27 < x26 then (if 0 ≤ x27 then (if x27 < (x25.length : Int) then ((tree_may.f k ((rd_T25 x25 x27).f0) ((rd_T25 x25 x27).f1) ((rd_T25 x25 x27).f2) ((rd_T25 x25 x27).f3) ((rd_T25 x25 x27).f4)).bind fun t181 => (if t181 = true then ((tree_head.f ((rd_T25 x25 x27).f0) ((rd_T25 x25 x27).f1) ((rd_T25 x25 x27).f2) ((rd_T25 x25 x27).f3) ((rd_T25 x25 x27).f4)).bind fun t182 => (if t182 = true then (if x27 > 0 then (some false) else (tree_May.l0 k x25 x26 (wrap64 (x27 + 1)))) else (tree_May.l0 k x25 x26 (wrap64 (x27 + 1))))) else (some false))) else (none)) else (none)) else (some true)
end
def tree_May.f (k : Nat) (l0 : List (S25)) : Option (Bool) := (tree_End.f k l0 0).bind fun bt176 => (if bt176.2 = true then (if bt176.1 = (l0.length : Int) then ((tree_Depth.f k l0).bind fun t178 => (tree_May.j0 k l0 (decide (t178 > 40)))) else (tree_May.j0 k l0 true)) else (tree_May.j0 k l0 true))
theorem tree_May.mono_l : ∀ k, (∀ y0 y1, LeO (tree_May.j0 k y0 y1) (tree_May.j0 (k + 1) y0 y1)) ∧ (∀ y0 y1 y2, LeO (tree_May.l0 k y0 y1 y2) (tree_May.l0 (k + 1) y0 y1 y2))
  | 0 => ⟨fun _ _ r h => by simp [tree_May.j0] at h, fun _ _ _ r h => by simp [tree_May.l0] at h⟩
  | k + 1 => by
    obtain ⟨ih0, ih1⟩ := tree_May.mono_l k
    refine ⟨?_, ?_⟩
    · intro y0 y1
      unfold tree_May.j0
      repeat' first
      | (with_reducible exact ih0 _ _)
      | (with_reducible exact ih1 _ _ _)
      | (with_reducible exact tree_Depth.mono _ _)
      | (with_reducible exact tree_End.mono _ _ _)
      | (with_reducible exact tree_may.mono _ _ _ _ _ _)
      | (with_reducible exact LeO.refl _)
      | (with_reducible exact LeO.none _)
      | (with_reducible refine LeO.ite ?_ ?_)
      | (with_reducible refine LeO.bind ?_ (fun _ => ?_))
      | exact ih0 _ _
      | exact ih1 _ _ _
      | exact tree_Depth.mono _ _
      | exact tree_End.mono _ _ _
      | exact tree_may.mono _ _ _ _ _ _
      | exact LeO.none _
      | refine LeO.ite ?_ ?_
      | refine LeO.bind ?_ (fun _ => ?_)
    · intro y0 y1 y2
      unfold tree_May.l0
      repeat' first
      | (with_reducible exact ih0 _ _)
      | (with_reducible exact ih1 _ _ _)
      | (with_reducible exact tree_Depth.mono _ _)
      | (with_reducible exact tree_End.mono _ _ _)
      | (with_reducible exact tree_may.mono _ _ _ _ _ _)
      | (with_reducible exact LeO.refl _)
      | (with_reducible exact LeO.none _)
      | (with_reducible refine LeO.ite ?_ ?_)
      | (with_reducible refine LeO.bind ?_ (fun _ => ?_))
      | exact ih0 _ _
      | exact ih1 _ _ _
      | exact tree_Depth.mono _ _
      | exact tree_End.mono _ _ _
      | exact tree_may.mono _ _ _ _ _ _
      | exact LeO.none _
      | refine LeO.ite ?_ ?_
      | refine LeO.bind ?_ (fun _ => ?_)
theorem tree_May.mono : ∀ a0 k, LeO (tree_May.f k a0) (tree_May.f (k + 1) a0) := by
  intro a0 k
  obtain ⟨ih0, ih1⟩ := tree_May.mono_l k
  unfold tree_May.f
  repeat' first
      | (with_reducible exact ih0 _ _)
      | (with_reducible exact ih1 _ _ _)
      | (with_reducible exact tree_Depth.mono _ _)
      | (with_reducible exact tree_End.mono _ _ _)
      | (with_reducible exact tree_may.mono _ _ _ _ _ _)
      | (with_reducible exact LeO.refl _)
      | (with_reducible exact LeO.none _)
      | (with_reducible refine LeO.ite ?_ ?_)
      | (with_reducible refine LeO.bind ?_ (fun _ => ?_))
      | exact ih0 _ _
      | exact ih1 _ _ _
      | exact tree_Depth.mono _ _
      | exact tree_End.mono _ _ _
      | exact tree_may.mono _ _ _ _ _ _
      | exact LeO.none _
      | refine LeO.ite ?_ ?_
      | refine LeO.bind ?_ (fun _ => ?_)
set_option maxHeartbeats 8000000 in
set_option maxRecDepth 100000 in
theorem tree_May.calls (k : Nat) (A0 : Option Addr) (c0 : Nat) (l0 : List (S25)) (r : Bool) (w : World) (hr0 : Kd.C k25 w A0 l0.length l0) (hc0 : l0.length ≤ c0) (h : tree_May.f k l0 = some r) :
    Calls Try.prog 28 #[.slice A0 l0.length c0] w fun e w' => e = .returned (.bool r) ∧ Below w.heap.size w w' := by
  have hu25 := Try.underlying25
  have HR0 := Aside0.mk hr0
  have HC0 := Aside0.mk hc0
  clear hr0 hc0
  have HB := Aside0.mk (Below.refl w.heap.size w)
  have H : ((tree_End.f k l0 0).bind fun bt176 => (if bt176.2 = true then (if bt176.1 = (l0.length : Int) then ((tree_Depth.f k l0).bind fun t178 => (tree_May.j0 k l0 (decide (t178 > 40)))) else (tree_May.j0 k l0 true)) else (tree_May.j0 k l0 true))) = some r := h
  clear h
  replace H := Option.bind_eq_some_iff.mp H
  obtain ⟨⟨t176, t177⟩, A20, H⟩ := H
  replace H : (if t177 = true then (if t176 = (l0.length : Int) then ((tree_Depth.f k l0).bind fun t178 => (tree_May.j0 k l0 (decide (t178 > 40)))) else (tree_May.j0 k l0 true)) else (tree_May.j0 k l0 true)) = some r := H
  have A2 := Aside0.mk A20
  clear A20
  have HC3 := Aside0.mk H
  clear H
  go_enter Try.func28, Try.ntmps28
  go_upto_region 2 with (first | ((with_reducible refine gate_callee (f := 19) rfl ?_); refine goesL_ (some 9) rfl rfl Try.func19 (by kernel_rfl) rfl #[.slice A0 l0.length c0, .int .i64 0] rfl (by (try simp only [List.map_toArray, List.map_cons, List.map_nil]); first | done | rfl | (simp only [List.length_drop, List.length_take]; rfl)) ?_; (with_reducible refine (tree_End.calls k _ _ l0 0 t176 t177 _ ?side1 ?side2 A2.out).mono ?_); (case side1 => repeat (first | exact HR0.out | (with_reducible refine Kd.C_alloc ?_ _) | (with_reducible refine Kd.C_drewN ?_ _) | (with_reducible refine Kd.C_drew ?_))); (case side2 => exact HC0.out); rintro e w4 ⟨rfl, hb⟩; refine ⟨_, rfl, ?_⟩; have n0_ := Aside0.mk (below_step (by repeat (first | (with_reducible first | exact HB.out | apply below_alloc | apply pw_below_drewN | apply below_drew1) | exact HB.out)) hb); clear HB; have HB := n0_; clear n0_; (try clear hb); (try clear hb2); (try clear hk); (try clear hi)))
  (try simp only [Act.put, List.setIfInBounds_toArray, List.set_cons_zero, List.set_cons_succ])
  go_cut [24] (fun v24 wc => ∃ (kq : Nat) (x24_2 : Bool), v24 = .bool x24_2 ∧ Aside0 (tree_May.j0 kq l0 x24_2 = some r) ∧ Aside0 (kq ≤ k) ∧ Aside0 (Below w.heap.size w wc))
  case first =>
    have H := HC3.out
    clear HC3
    by_cases c5 : t177 = true
    · subst c5
      have H1 : (if t176 = (l0.length : Int) then ((tree_Depth.f k l0).bind fun t178 => (tree_May.j0 k l0 (decide (t178 > 40)))) else (tree_May.j0 k l0 true)) = some r := by rw [if_pos rfl] at H; exact H
      clear H
      have H := H1
      clear H1
      by_cases c6 : t176 = (l0.length : Int)
      · rw [if_pos c6] at H
        have c6b0 : (t176 == (l0.length : Int)) = true := beq_iff_eq.mpr c6
        have c6b1 : (t176 != (l0.length : Int)) = false := bne_eq_false_iff_eq.mpr c6
        clear c6
        (first | rw [c6b0] | (simp only [i64_w, i32_w]; rw [c6b0]) | skip)
        replace H := Option.bind_eq_some_iff.mp H
        obtain ⟨t178, A70, H⟩ := H
        replace H : (tree_May.j0 k l0 (decide (t178 > 40))) = some r := H
        have A7 := Aside0.mk A70
        clear A70
        have H' := Aside0.mk H
        clear H
        go_wp2_with (first | (go_at_call 26; (with_reducible refine (tree_Depth.calls k _ _ l0 t178 _ ?side1 ?side2 A7.out).mono ?_); (case side1 => repeat (first | exact (Kd.C_below HR0.out HB.out) | (with_reducible refine Kd.C_alloc ?_ _) | (with_reducible refine Kd.C_drewN ?_ _) | (with_reducible refine Kd.C_drew ?_))); (case side2 => exact HC0.out); rintro e w8 ⟨rfl, hb⟩; have n0_ := Aside0.mk (below_step (by repeat (first | (with_reducible first | exact HB.out | apply below_alloc | apply pw_below_drewN | apply below_drew1) | exact HB.out)) hb); clear HB; have HB := n0_; clear n0_; (try clear hb); (try clear hb2); (try clear hk); (try clear hi)))
        go_meet
        case rel => exact ⟨_, (decide (t178 > 40)), (by first | rfl | (simp; done) | (simp [*]; done)), H', ⟨by first | omega | exact Nat.le_refl _⟩, ⟨by repeat (first | (with_reducible first | exact HB.out | apply below_alloc | apply pw_below_drewN | apply below_drew1) | exact HB.out)⟩⟩
      · rw [if_neg c6] at H
        have c6b0 : (t176 == (l0.length : Int)) = false := beq_eq_false_iff_ne.mpr c6
        have c6b1 : (t176 != (l0.length : Int)) = true := bne_iff_ne.mpr c6
        (first | rw [c6b0] | (simp only [i64_w, i32_w]; rw [c6b0]) | skip)
        have H' := Aside0.mk H
        clear H
        go_wp2
        go_meet
        case rel => exact ⟨_, (true), (by first | rfl | (simp; done) | (simp [*]; done)), H', ⟨by first | omega | exact Nat.le_refl _⟩, ⟨by repeat (first | (with_reducible first | exact HB.out | apply below_alloc | apply pw_below_drewN | apply below_drew1) | exact HB.out)⟩⟩
    · replace c5 := Bool.eq_false_iff.mpr c5
      subst c5
      have H1 : (tree_May.j0 k l0 true) = some r := by rw [if_neg (show ¬ (false = true) by decide)] at H; exact H
      clear H
      have H := H1
      clear H1
      have H' := Aside0.mk H
      clear H
      go_wp2
      go_meet
      case rel => exact ⟨_, (true), (by first | rfl | (simp; done) | (simp [*]; done)), H', ⟨by first | omega | exact Nat.le_refl _⟩, ⟨by repeat (first | (with_reducible first | exact HB.out | apply below_alloc | apply pw_below_drewN | apply below_drew1) | exact HB.out)⟩⟩
  case rest =>
    clear HC3
    try clear c1
    try clear c2
    try clear p2
    try clear c5
    try clear c6
    try clear c6b0
    try clear c6b1
    obtain ⟨kq, x24_2, rfl, HA, HJ2, HB⟩ := hcut
    cases kq with
    | zero => exact absurd HA.out (by simp [tree_May.j0])
    | succ kj2 =>
      have H := HA.out
      clear HA
      simp only [tree_May.j0] at H
      by_cases c9 : x24_2 = true
      · subst c9
        have H1 : (some false) = some r := by rw [if_pos rfl] at H; exact H
        clear H
        have H := H1
        clear H1
        obtain rfl := Option.some.inj H
        go_wp2
        go_ret
        exact ⟨by first | rfl | (simp [errW_none, errW_some] <;> rfl) | (simp [*, errW_none, errW_some] <;> rfl), by repeat (first | (with_reducible first | exact HB.out | apply below_alloc | apply pw_below_drewN | apply below_drew1) | exact HB.out)⟩
      · replace c9 := Bool.eq_false_iff.mpr c9
        subst c9
        have H1 : (tree_May.l0 kj2 l0 (l0.length : Int) 0) = some r := by rw [if_neg (show ¬ (false = true) by decide)] at H; exact H
        clear H
        have H := H1
        clear H1
        have H' := Aside0.mk H
        clear H
        go_wp2
        go_loopg [27] kj2 (fun kq v27 w' => ∃ (x27_2 : Int), v27 = .int .i64 x27_2 ∧ Aside0 (tree_May.l0 kq l0 (l0.length : Int) x27_2 = some r) ∧ Aside0 (kq ≤ kj2) ∧ Aside0 (Below w.heap.size w w'))
        case atStart => exact ⟨(0), (by first | rfl | (simp; done) | (simp [*]; done)), H', ⟨Nat.le_refl _⟩, ⟨by repeat (first | (with_reducible first | exact HB.out | apply below_alloc | apply pw_below_drewN | apply below_drew1) | exact HB.out)⟩⟩
        case round =>
          clear H'
          try clear c1
          try clear c2
          try clear p2
          try clear c5
          try clear c6
          try clear c6b0
          try clear c6b1
          try clear c9
          try clear p2
          obtain ⟨x27_2, rfl, HA, HK2, HB⟩ := hrel
          cases gk with
          | zero => exact absurd HA.out (by simp [tree_May.l0])
          | succ k2 =>
            have H := HA.out
            clear HA
            simp only [tree_May.l0] at H
            by_cases c10 : x27_2 < (l0.length : Int)
            · rw [if_pos c10] at H
              have c10b0 : decide (x27_2 < (l0.length : Int)) = true := decide_eq_true c10
              clear c10
              by_cases c11 : 0 ≤ x27_2
              · rw [if_pos c11] at H
                have c11b0 : decide (0 ≤ x27_2) = true := decide_eq_true c11
                clear c11
                by_cases c12 : x27_2 < (l0.length : Int)
                · rw [if_pos c12] at H
                  have c12b0 : decide (x27_2 < (l0.length : Int)) = true := decide_eq_true c12
                  clear c12
                  replace H := Option.bind_eq_some_iff.mp H
                  obtain ⟨t181, A130, H⟩ := H
                  replace H : (if t181 = true then ((tree_head.f ((rd_T25 l0 x27_2).f0) ((rd_T25 l0 x27_2).f1) ((rd_T25 l0 x27_2).f2) ((rd_T25 l0 x27_2).f3) ((rd_T25 l0 x27_2).f4)).bind fun t182 => (if t182 = true then (if x27_2 > 0 then (some false) else (tree_May.l0 k2 l0 (l0.length : Int) (wrap64 (x27_2 + 1)))) else (tree_May.l0 k2 l0 (l0.length : Int) (wrap64 (x27_2 + 1))))) else (some false)) = some r := H
                  have A13 := Aside0.mk A130
                  clear A130
                  by_cases c14 : t181 = true
                  · subst c14
                    have H1 : ((tree_head.f ((rd_T25 l0 x27_2).f0) ((rd_T25 l0 x27_2).f1) ((rd_T25 l0 x27_2).f2) ((rd_T25 l0 x27_2).f3) ((rd_T25 l0 x27_2).f4)).bind fun t182 => (if t182 = true then (if x27_2 > 0 then (some false) else (tree_May.l0 k2 l0 (l0.length : Int) (wrap64 (x27_2 + 1)))) else (tree_May.l0 k2 l0 (l0.length : Int) (wrap64 (x27_2 + 1))))) = some r := by rw [if_pos rfl] at H; exact H
                    clear H
                    have H := H1
                    clear H1
                    replace H := Option.bind_eq_some_iff.mp H
                    obtain ⟨t182, A150, H⟩ := H
                    replace H : (if t182 = true then (if x27_2 > 0 then (some false) else (tree_May.l0 k2 l0 (l0.length : Int) (wrap64 (x27_2 + 1)))) else (tree_May.l0 k2 l0 (l0.length : Int) (wrap64 (x27_2 + 1)))) = some r := H
                    have A15 := Aside0.mk A150
                    clear A150
                    by_cases c16 : t182 = true
                    · subst c16
                      have H1 : (if x27_2 > 0 then (some false) else (tree_May.l0 k2 l0 (l0.length : Int) (wrap64 (x27_2 + 1)))) = some r := by rw [if_pos rfl] at H; exact H
                      clear H
                      have H := H1
                      clear H1
                      by_cases c17 : x27_2 > 0
                      · rw [if_pos c17] at H
                        have c17b0 : decide (0 < x27_2) = true := decide_eq_true c17
                        clear c17
                        obtain rfl := Option.some.inj H
                        have p179 : 0 ≤ (x27_2 : Int) := of_decide_eq_true (by first | (with_reducible assumption) | assumption)
                        have q179 : x27_2 < (l0.length : Int) := of_decide_eq_true (by first | (with_reducible assumption) | assumption)
                        obtain ⟨ad179, A179_4, c179_4, e179, hx179_0, hx179_1, hx179_2, hx179_3, hx179_4, hl179_4, hi179_4⟩ := at_T25 HR0.out x27_2 p179 q179
                        cases e179
                        replace hx179_0 := (HB.out.cell (World.block_lt_of_cell? w _ hx179_0)).trans hx179_0
                        replace hx179_1 := (HB.out.cell (World.block_lt_of_cell? w _ hx179_1)).trans hx179_1
                        replace hx179_2 := (HB.out.cell (World.block_lt_of_cell? w _ hx179_2)).trans hx179_2
                        replace hx179_3 := (HB.out.cell (World.block_lt_of_cell? w _ hx179_3)).trans hx179_3
                        replace hx179_4 := (HB.out.cell (World.block_lt_of_cell? w _ hx179_4)).trans hx179_4
                        have HR179_4 := Aside0.mk hi179_4
                        have HC179_4 := Aside0.mk hl179_4
                        clear hi179_4 hl179_4
                        replace p179 := eq_true p179
                        replace q179 := eq_true q179
                        go_wp2_with (first | ((with_reducible refine gate_dst (N := 6) rfl ?_); (try (refine gate_guard (by rfl) ?_; dsimp only)); refine box_event ?hg (N := 6) ?hd (cs := #[.int .i64 0, .string (⟨#[]⟩ : ByteArray), .string (⟨#[]⟩ : ByteArray), .string (⟨#[]⟩ : ByteArray), .slice none 0 0]) (t := 25) ?hr ?_; (case hd => rfl); (case hg => rfl); (case hr => first | (go_simp; done) | (go_simp; rfl)); intro gb180 hg w18 hbox hb; have n0_ := Aside0.mk (below_step (by repeat (first | (with_reducible first | exact HB.out | apply below_alloc | apply pw_below_drewN | apply below_drew1) | exact HB.out)) hb); have n1_ := Aside0.mk (hbox); have n2_ := Aside0.mk ((by rw [hg]; exact (below_size (by repeat (first | (with_reducible first | exact HB.out | apply below_alloc | apply pw_below_drewN | apply below_drew1) | exact HB.out))) : w.heap.size ≤ gb180)); have n3_ := Aside0.mk ((by rw [hg]; exact (below_size (by repeat (first | (with_reducible first | exact HB.out | apply below_alloc | apply pw_below_drewN | apply below_drew1) | exact HB.out))) : w.heap.size ≤ gb180)); clear HB; have HB := n0_; have BK180 := n1_; have GW180 := n2_; have GE180 := n3_; clear n0_ n1_ n2_ n3_; clear hb hbox hg; have hcz19_0 : w18.cell? ⟨gb180, 0, none⟩ = some (.int .i64 0) := (blk_cell BK180.out 0).trans rfl; have hcz19_1 : w18.cell? ⟨gb180, 1, none⟩ = some (.string (⟨#[]⟩ : ByteArray)) := (blk_cell BK180.out 1).trans rfl; have hcz19_2 : w18.cell? ⟨gb180, 2, none⟩ = some (.string (⟨#[]⟩ : ByteArray)) := (blk_cell BK180.out 2).trans rfl; have hcz19_3 : w18.cell? ⟨gb180, 3, none⟩ = some (.string (⟨#[]⟩ : ByteArray)) := (blk_cell BK180.out 3).trans rfl; have hcz19_4 : w18.cell? ⟨gb180, 4, none⟩ = some (.slice none 0 0) := (blk_cell BK180.out 4).trans rfl; have hfz19_0 := blk_frozen BK180.out 0; have hfz19_1 := blk_frozen BK180.out 1; have hfz19_2 := blk_frozen BK180.out 2; have hfz19_3 := blk_frozen BK180.out 3; have hfz19_4 := blk_frozen BK180.out 4) | ((with_reducible refine gate_callee (f := 42) rfl ?_); refine goesL_ (some 33) rfl rfl Try.func42 (by kernel_rfl) rfl #[.agg #[.int .i64 ((rd_T25 l0 x27_2).f0), .string ((rd_T25 l0 x27_2).f1), .string ((rd_T25 l0 x27_2).f2), .string ((rd_T25 l0 x27_2).f3), .slice A179_4 ((rd_T25 l0 x27_2).f4).length c179_4]] rfl (by (try simp only [List.map_toArray, List.map_cons, List.map_nil]); first | done | rfl | (simp only [List.length_drop, List.length_take]; rfl)) ?_; (with_reducible refine (tree_may.calls k2 ((rd_T25 l0 x27_2).f0) ((rd_T25 l0 x27_2).f1) ((rd_T25 l0 x27_2).f2) ((rd_T25 l0 x27_2).f3) _ _ ((rd_T25 l0 x27_2).f4) true _ ?side1 ?side2 A13.out).mono ?_); (case side1 => exact Kd.C_below HR179_4.out (by repeat (first | (with_reducible first | exact HB.out | apply below_alloc | apply pw_below_drewN | apply below_drew1 | refine below_set ?_ GE180.out) | exact HB.out))); (case side2 => exact HC179_4.out); rintro e w20 ⟨rfl, hb⟩; refine ⟨_, rfl, ?_⟩; have n0_ := Aside0.mk (blk_below (g := gb180) (o := .cells #[.int .i64 ((rd_T25 l0 x27_2).f0), .string ((rd_T25 l0 x27_2).f1), .string ((rd_T25 l0 x27_2).f2), .string ((rd_T25 l0 x27_2).f3), .slice A179_4 ((rd_T25 l0 x27_2).f4).length c179_4] 25 (0, 0)) (by (with_reducible repeat (first | refine blk_drewN ?_ _ | refine blk_drew ?_ | refine blk_alloc ?_ _)); refine blk_put (cs := #[.int .i64 ((rd_T25 l0 x27_2).f0), .string ((rd_T25 l0 x27_2).f1), .string ((rd_T25 l0 x27_2).f2), .string ((rd_T25 l0 x27_2).f3), .slice none 0 0]) ?_ 4 _ rfl; (with_reducible repeat (first | refine blk_drewN ?_ _ | refine blk_drew ?_ | refine blk_alloc ?_ _)); refine blk_put (cs := #[.int .i64 ((rd_T25 l0 x27_2).f0), .string ((rd_T25 l0 x27_2).f1), .string ((rd_T25 l0 x27_2).f2), .string (⟨#[]⟩ : ByteArray), .slice none 0 0]) ?_ 3 _ rfl; (with_reducible repeat (first | refine blk_drewN ?_ _ | refine blk_drew ?_ | refine blk_alloc ?_ _)); refine blk_put (cs := #[.int .i64 ((rd_T25 l0 x27_2).f0), .string ((rd_T25 l0 x27_2).f1), .string (⟨#[]⟩ : ByteArray), .string (⟨#[]⟩ : ByteArray), .slice none 0 0]) ?_ 2 _ rfl; (with_reducible repeat (first | refine blk_drewN ?_ _ | refine blk_drew ?_ | refine blk_alloc ?_ _)); refine blk_put (cs := #[.int .i64 ((rd_T25 l0 x27_2).f0), .string (⟨#[]⟩ : ByteArray), .string (⟨#[]⟩ : ByteArray), .string (⟨#[]⟩ : ByteArray), .slice none 0 0]) ?_ 1 _ rfl; (with_reducible repeat (first | refine blk_drewN ?_ _ | refine blk_drew ?_ | refine blk_alloc ?_ _)); refine blk_put (cs := #[.int .i64 0, .string (⟨#[]⟩ : ByteArray), .string (⟨#[]⟩ : ByteArray), .string (⟨#[]⟩ : ByteArray), .slice none 0 0]) ?_ 0 _ rfl; (with_reducible repeat (first | refine blk_drewN ?_ _ | refine blk_drew ?_ | refine blk_alloc ?_ _)); exact BK180.out) hb); have n1_ := Aside0.mk (below_step (by repeat (first | (with_reducible first | exact HB.out | apply below_alloc | apply pw_below_drewN | apply below_drew1 | refine below_set ?_ GE180.out) | exact HB.out)) hb); clear BK180; clear HB; have BK180 := n0_; have HB := n1_; clear n0_ n1_; (try clear hb); (try clear hb2); (try clear hk); (try clear hi); have hcz21_0 : w20.cell? ⟨gb180, 0, none⟩ = some (.int .i64 ((rd_T25 l0 x27_2).f0)) := (blk_cell BK180.out 0).trans rfl; have hcz21_1 : w20.cell? ⟨gb180, 1, none⟩ = some (.string ((rd_T25 l0 x27_2).f1)) := (blk_cell BK180.out 1).trans rfl; have hcz21_2 : w20.cell? ⟨gb180, 2, none⟩ = some (.string ((rd_T25 l0 x27_2).f2)) := (blk_cell BK180.out 2).trans rfl; have hcz21_3 : w20.cell? ⟨gb180, 3, none⟩ = some (.string ((rd_T25 l0 x27_2).f3)) := (blk_cell BK180.out 3).trans rfl; have hcz21_4 : w20.cell? ⟨gb180, 4, none⟩ = some (.slice A179_4 ((rd_T25 l0 x27_2).f4).length c179_4) := (blk_cell BK180.out 4).trans rfl; have hfz21_0 := blk_frozen BK180.out 0; have hfz21_1 := blk_frozen BK180.out 1; have hfz21_2 := blk_frozen BK180.out 2; have hfz21_3 := blk_frozen BK180.out 3; have hfz21_4 := blk_frozen BK180.out 4) | (go_at_call 43; (with_reducible refine (tree_head.calls ((rd_T25 l0 x27_2).f0) ((rd_T25 l0 x27_2).f1) ((rd_T25 l0 x27_2).f2) ((rd_T25 l0 x27_2).f3) _ _ ((rd_T25 l0 x27_2).f4) true _ ?side1 ?side2 A15.out).mono ?_); (case side1 => repeat (first | exact (Kd.C_below HR179_4.out HB.out) | (with_reducible refine Kd.C_alloc ?_ _) | (with_reducible refine Kd.C_drewN ?_ _) | (with_reducible refine Kd.C_drew ?_))); (case side2 => exact HC179_4.out); rintro e w22 ⟨rfl, hb⟩; have n0_ := Aside0.mk (blk_below (g := gb180) (o := .cells #[.int .i64 ((rd_T25 l0 x27_2).f0), .string ((rd_T25 l0 x27_2).f1), .string ((rd_T25 l0 x27_2).f2), .string ((rd_T25 l0 x27_2).f3), .slice A179_4 ((rd_T25 l0 x27_2).f4).length c179_4] 25 (0, 0)) (by (with_reducible repeat (first | refine blk_drewN ?_ _ | refine blk_drew ?_ | refine blk_alloc ?_ _)); exact BK180.out) hb); have n1_ := Aside0.mk (below_step (by repeat (first | (with_reducible first | exact HB.out | apply below_alloc | apply pw_below_drewN | apply below_drew1 | refine below_set ?_ GE180.out) | exact HB.out)) hb); clear BK180; clear HB; have BK180 := n0_; have HB := n1_; clear n0_ n1_; (try clear hb); (try clear hb2); (try clear hk); (try clear hi)))
                        go_ret
                        exact ⟨by first | rfl | (simp [errW_none, errW_some] <;> rfl) | (simp [*, errW_none, errW_some] <;> rfl), by repeat (first | (with_reducible first | exact HB.out | apply below_alloc | apply pw_below_drewN | apply below_drew1 | refine below_set ?_ GE180.out) | exact HB.out)⟩
                      · rw [if_neg c17] at H
                        have c17b0 : decide (0 < x27_2) = false := decide_eq_false c17
                        clear c17
                        have H' := Aside0.mk H
                        clear H
                        have p179 : 0 ≤ (x27_2 : Int) := of_decide_eq_true (by first | (with_reducible assumption) | assumption)
                        have q179 : x27_2 < (l0.length : Int) := of_decide_eq_true (by first | (with_reducible assumption) | assumption)
                        obtain ⟨ad179, A179_4, c179_4, e179, hx179_0, hx179_1, hx179_2, hx179_3, hx179_4, hl179_4, hi179_4⟩ := at_T25 HR0.out x27_2 p179 q179
                        cases e179
                        replace hx179_0 := (HB.out.cell (World.block_lt_of_cell? w _ hx179_0)).trans hx179_0
                        replace hx179_1 := (HB.out.cell (World.block_lt_of_cell? w _ hx179_1)).trans hx179_1
                        replace hx179_2 := (HB.out.cell (World.block_lt_of_cell? w _ hx179_2)).trans hx179_2
                        replace hx179_3 := (HB.out.cell (World.block_lt_of_cell? w _ hx179_3)).trans hx179_3
                        replace hx179_4 := (HB.out.cell (World.block_lt_of_cell? w _ hx179_4)).trans hx179_4
                        have HR179_4 := Aside0.mk hi179_4
                        have HC179_4 := Aside0.mk hl179_4
                        clear hi179_4 hl179_4
                        replace p179 := eq_true p179
                        replace q179 := eq_true q179
                        go_wp2_with (first | ((with_reducible refine gate_dst (N := 6) rfl ?_); (try (refine gate_guard (by rfl) ?_; dsimp only)); refine box_event ?hg (N := 6) ?hd (cs := #[.int .i64 0, .string (⟨#[]⟩ : ByteArray), .string (⟨#[]⟩ : ByteArray), .string (⟨#[]⟩ : ByteArray), .slice none 0 0]) (t := 25) ?hr ?_; (case hd => rfl); (case hg => rfl); (case hr => first | (go_simp; done) | (go_simp; rfl)); intro gb180 hg w23 hbox hb; have n0_ := Aside0.mk (below_step (by repeat (first | (with_reducible first | exact HB.out | apply below_alloc | apply pw_below_drewN | apply below_drew1) | exact HB.out)) hb); have n1_ := Aside0.mk (hbox); have n2_ := Aside0.mk ((by rw [hg]; exact (below_size (by repeat (first | (with_reducible first | exact HB.out | apply below_alloc | apply pw_below_drewN | apply below_drew1) | exact HB.out))) : w.heap.size ≤ gb180)); have n3_ := Aside0.mk ((by rw [hg]; exact (below_size (by repeat (first | (with_reducible first | exact HB.out | apply below_alloc | apply pw_below_drewN | apply below_drew1) | exact HB.out))) : w.heap.size ≤ gb180)); clear HB; have HB := n0_; have BK180 := n1_; have GW180 := n2_; have GE180 := n3_; clear n0_ n1_ n2_ n3_; clear hb hbox hg; have hcz24_0 : w23.cell? ⟨gb180, 0, none⟩ = some (.int .i64 0) := (blk_cell BK180.out 0).trans rfl; have hcz24_1 : w23.cell? ⟨gb180, 1, none⟩ = some (.string (⟨#[]⟩ : ByteArray)) := (blk_cell BK180.out 1).trans rfl; have hcz24_2 : w23.cell? ⟨gb180, 2, none⟩ = some (.string (⟨#[]⟩ : ByteArray)) := (blk_cell BK180.out 2).trans rfl; have hcz24_3 : w23.cell? ⟨gb180, 3, none⟩ = some (.string (⟨#[]⟩ : ByteArray)) := (blk_cell BK180.out 3).trans rfl; have hcz24_4 : w23.cell? ⟨gb180, 4, none⟩ = some (.slice none 0 0) := (blk_cell BK180.out 4).trans rfl; have hfz24_0 := blk_frozen BK180.out 0; have hfz24_1 := blk_frozen BK180.out 1; have hfz24_2 := blk_frozen BK180.out 2; have hfz24_3 := blk_frozen BK180.out 3; have hfz24_4 := blk_frozen BK180.out 4) | ((with_reducible refine gate_callee (f := 42) rfl ?_); refine goesL_ (some 33) rfl rfl Try.func42 (by kernel_rfl) rfl #[.agg #[.int .i64 ((rd_T25 l0 x27_2).f0), .string ((rd_T25 l0 x27_2).f1), .string ((rd_T25 l0 x27_2).f2), .string ((rd_T25 l0 x27_2).f3), .slice A179_4 ((rd_T25 l0 x27_2).f4).length c179_4]] rfl (by (try simp only [List.map_toArray, List.map_cons, List.map_nil]); first | done | rfl | (simp only [List.length_drop, List.length_take]; rfl)) ?_; (with_reducible refine (tree_may.calls k2 ((rd_T25 l0 x27_2).f0) ((rd_T25 l0 x27_2).f1) ((rd_T25 l0 x27_2).f2) ((rd_T25 l0 x27_2).f3) _ _ ((rd_T25 l0 x27_2).f4) true _ ?side1 ?side2 A13.out).mono ?_); (case side1 => exact Kd.C_below HR179_4.out (by repeat (first | (with_reducible first | exact HB.out | apply below_alloc | apply pw_below_drewN | apply below_drew1 | refine below_set ?_ GE180.out) | exact HB.out))); (case side2 => exact HC179_4.out); rintro e w25 ⟨rfl, hb⟩; refine ⟨_, rfl, ?_⟩; have n0_ := Aside0.mk (blk_below (g := gb180) (o := .cells #[.int .i64 ((rd_T25 l0 x27_2).f0), .string ((rd_T25 l0 x27_2).f1), .string ((rd_T25 l0 x27_2).f2), .string ((rd_T25 l0 x27_2).f3), .slice A179_4 ((rd_T25 l0 x27_2).f4).length c179_4] 25 (0, 0)) (by (with_reducible repeat (first | refine blk_drewN ?_ _ | refine blk_drew ?_ | refine blk_alloc ?_ _)); refine blk_put (cs := #[.int .i64 ((rd_T25 l0 x27_2).f0), .string ((rd_T25 l0 x27_2).f1), .string ((rd_T25 l0 x27_2).f2), .string ((rd_T25 l0 x27_2).f3), .slice none 0 0]) ?_ 4 _ rfl; (with_reducible repeat (first | refine blk_drewN ?_ _ | refine blk_drew ?_ | refine blk_alloc ?_ _)); refine blk_put (cs := #[.int .i64 ((rd_T25 l0 x27_2).f0), .string ((rd_T25 l0 x27_2).f1), .string ((rd_T25 l0 x27_2).f2), .string (⟨#[]⟩ : ByteArray), .slice none 0 0]) ?_ 3 _ rfl; (with_reducible repeat (first | refine blk_drewN ?_ _ | refine blk_drew ?_ | refine blk_alloc ?_ _)); refine blk_put (cs := #[.int .i64 ((rd_T25 l0 x27_2).f0), .string ((rd_T25 l0 x27_2).f1), .string (⟨#[]⟩ : ByteArray), .string (⟨#[]⟩ : ByteArray), .slice none 0 0]) ?_ 2 _ rfl; (with_reducible repeat (first | refine blk_drewN ?_ _ | refine blk_drew ?_ | refine blk_alloc ?_ _)); refine blk_put (cs := #[.int .i64 ((rd_T25 l0 x27_2).f0), .string (⟨#[]⟩ : ByteArray), .string (⟨#[]⟩ : ByteArray), .string (⟨#[]⟩ : ByteArray), .slice none 0 0]) ?_ 1 _ rfl; (with_reducible repeat (first | refine blk_drewN ?_ _ | refine blk_drew ?_ | refine blk_alloc ?_ _)); refine blk_put (cs := #[.int .i64 0, .string (⟨#[]⟩ : ByteArray), .string (⟨#[]⟩ : ByteArray), .string (⟨#[]⟩ : ByteArray), .slice none 0 0]) ?_ 0 _ rfl; (with_reducible repeat (first | refine blk_drewN ?_ _ | refine blk_drew ?_ | refine blk_alloc ?_ _)); exact BK180.out) hb); have n1_ := Aside0.mk (below_step (by repeat (first | (with_reducible first | exact HB.out | apply below_alloc | apply pw_below_drewN | apply below_drew1 | refine below_set ?_ GE180.out) | exact HB.out)) hb); clear BK180; clear HB; have BK180 := n0_; have HB := n1_; clear n0_ n1_; (try clear hb); (try clear hb2); (try clear hk); (try clear hi); have hcz26_0 : w25.cell? ⟨gb180, 0, none⟩ = some (.int .i64 ((rd_T25 l0 x27_2).f0)) := (blk_cell BK180.out 0).trans rfl; have hcz26_1 : w25.cell? ⟨gb180, 1, none⟩ = some (.string ((rd_T25 l0 x27_2).f1)) := (blk_cell BK180.out 1).trans rfl; have hcz26_2 : w25.cell? ⟨gb180, 2, none⟩ = some (.string ((rd_T25 l0 x27_2).f2)) := (blk_cell BK180.out 2).trans rfl; have hcz26_3 : w25.cell? ⟨gb180, 3, none⟩ = some (.string ((rd_T25 l0 x27_2).f3)) := (blk_cell BK180.out 3).trans rfl; have hcz26_4 : w25.cell? ⟨gb180, 4, none⟩ = some (.slice A179_4 ((rd_T25 l0 x27_2).f4).length c179_4) := (blk_cell BK180.out 4).trans rfl; have hfz26_0 := blk_frozen BK180.out 0; have hfz26_1 := blk_frozen BK180.out 1; have hfz26_2 := blk_frozen BK180.out 2; have hfz26_3 := blk_frozen BK180.out 3; have hfz26_4 := blk_frozen BK180.out 4) | (go_at_call 43; (with_reducible refine (tree_head.calls ((rd_T25 l0 x27_2).f0) ((rd_T25 l0 x27_2).f1) ((rd_T25 l0 x27_2).f2) ((rd_T25 l0 x27_2).f3) _ _ ((rd_T25 l0 x27_2).f4) true _ ?side1 ?side2 A15.out).mono ?_); (case side1 => repeat (first | exact (Kd.C_below HR179_4.out HB.out) | (with_reducible refine Kd.C_alloc ?_ _) | (with_reducible refine Kd.C_drewN ?_ _) | (with_reducible refine Kd.C_drew ?_))); (case side2 => exact HC179_4.out); rintro e w27 ⟨rfl, hb⟩; have n0_ := Aside0.mk (blk_below (g := gb180) (o := .cells #[.int .i64 ((rd_T25 l0 x27_2).f0), .string ((rd_T25 l0 x27_2).f1), .string ((rd_T25 l0 x27_2).f2), .string ((rd_T25 l0 x27_2).f3), .slice A179_4 ((rd_T25 l0 x27_2).f4).length c179_4] 25 (0, 0)) (by (with_reducible repeat (first | refine blk_drewN ?_ _ | refine blk_drew ?_ | refine blk_alloc ?_ _)); exact BK180.out) hb); have n1_ := Aside0.mk (below_step (by repeat (first | (with_reducible first | exact HB.out | apply below_alloc | apply pw_below_drewN | apply below_drew1 | refine below_set ?_ GE180.out) | exact HB.out)) hb); clear BK180; clear HB; have BK180 := n0_; have HB := n1_; clear n0_ n1_; (try clear hb); (try clear hb2); (try clear hk); (try clear hi)))
                        go_roundg k2
                        case measure => have := HJ2.out; have := HK2.out; omega
                        case rel => exact ⟨(wrap64 (x27_2 + 1)), (by first | rfl | (simp; done) | (simp [*]; done)), H', ⟨by have := HJ2.out; have := HK2.out; omega⟩, ⟨by repeat (first | (with_reducible first | exact HB.out | apply below_alloc | apply pw_below_drewN | apply below_drew1 | refine below_set ?_ GE180.out) | exact HB.out)⟩⟩
                    · replace c16 := Bool.eq_false_iff.mpr c16
                      subst c16
                      have H1 : (tree_May.l0 k2 l0 (l0.length : Int) (wrap64 (x27_2 + 1))) = some r := by rw [if_neg (show ¬ (false = true) by decide)] at H; exact H
                      clear H
                      have H := H1
                      clear H1
                      have H' := Aside0.mk H
                      clear H
                      have p179 : 0 ≤ (x27_2 : Int) := of_decide_eq_true (by first | (with_reducible assumption) | assumption)
                      have q179 : x27_2 < (l0.length : Int) := of_decide_eq_true (by first | (with_reducible assumption) | assumption)
                      obtain ⟨ad179, A179_4, c179_4, e179, hx179_0, hx179_1, hx179_2, hx179_3, hx179_4, hl179_4, hi179_4⟩ := at_T25 HR0.out x27_2 p179 q179
                      cases e179
                      replace hx179_0 := (HB.out.cell (World.block_lt_of_cell? w _ hx179_0)).trans hx179_0
                      replace hx179_1 := (HB.out.cell (World.block_lt_of_cell? w _ hx179_1)).trans hx179_1
                      replace hx179_2 := (HB.out.cell (World.block_lt_of_cell? w _ hx179_2)).trans hx179_2
                      replace hx179_3 := (HB.out.cell (World.block_lt_of_cell? w _ hx179_3)).trans hx179_3
                      replace hx179_4 := (HB.out.cell (World.block_lt_of_cell? w _ hx179_4)).trans hx179_4
                      have HR179_4 := Aside0.mk hi179_4
                      have HC179_4 := Aside0.mk hl179_4
                      clear hi179_4 hl179_4
                      replace p179 := eq_true p179
                      replace q179 := eq_true q179
                      go_wp2_with (first | ((with_reducible refine gate_dst (N := 6) rfl ?_); (try (refine gate_guard (by rfl) ?_; dsimp only)); refine box_event ?hg (N := 6) ?hd (cs := #[.int .i64 0, .string (⟨#[]⟩ : ByteArray), .string (⟨#[]⟩ : ByteArray), .string (⟨#[]⟩ : ByteArray), .slice none 0 0]) (t := 25) ?hr ?_; (case hd => rfl); (case hg => rfl); (case hr => first | (go_simp; done) | (go_simp; rfl)); intro gb180 hg w28 hbox hb; have n0_ := Aside0.mk (below_step (by repeat (first | (with_reducible first | exact HB.out | apply below_alloc | apply pw_below_drewN | apply below_drew1) | exact HB.out)) hb); have n1_ := Aside0.mk (hbox); have n2_ := Aside0.mk ((by rw [hg]; exact (below_size (by repeat (first | (with_reducible first | exact HB.out | apply below_alloc | apply pw_below_drewN | apply below_drew1) | exact HB.out))) : w.heap.size ≤ gb180)); have n3_ := Aside0.mk ((by rw [hg]; exact (below_size (by repeat (first | (with_reducible first | exact HB.out | apply below_alloc | apply pw_below_drewN | apply below_drew1) | exact HB.out))) : w.heap.size ≤ gb180)); clear HB; have HB := n0_; have BK180 := n1_; have GW180 := n2_; have GE180 := n3_; clear n0_ n1_ n2_ n3_; clear hb hbox hg; have hcz29_0 : w28.cell? ⟨gb180, 0, none⟩ = some (.int .i64 0) := (blk_cell BK180.out 0).trans rfl; have hcz29_1 : w28.cell? ⟨gb180, 1, none⟩ = some (.string (⟨#[]⟩ : ByteArray)) := (blk_cell BK180.out 1).trans rfl; have hcz29_2 : w28.cell? ⟨gb180, 2, none⟩ = some (.string (⟨#[]⟩ : ByteArray)) := (blk_cell BK180.out 2).trans rfl; have hcz29_3 : w28.cell? ⟨gb180, 3, none⟩ = some (.string (⟨#[]⟩ : ByteArray)) := (blk_cell BK180.out 3).trans rfl; have hcz29_4 : w28.cell? ⟨gb180, 4, none⟩ = some (.slice none 0 0) := (blk_cell BK180.out 4).trans rfl; have hfz29_0 := blk_frozen BK180.out 0; have hfz29_1 := blk_frozen BK180.out 1; have hfz29_2 := blk_frozen BK180.out 2; have hfz29_3 := blk_frozen BK180.out 3; have hfz29_4 := blk_frozen BK180.out 4) | ((with_reducible refine gate_callee (f := 42) rfl ?_); refine goesL_ (some 33) rfl rfl Try.func42 (by kernel_rfl) rfl #[.agg #[.int .i64 ((rd_T25 l0 x27_2).f0), .string ((rd_T25 l0 x27_2).f1), .string ((rd_T25 l0 x27_2).f2), .string ((rd_T25 l0 x27_2).f3), .slice A179_4 ((rd_T25 l0 x27_2).f4).length c179_4]] rfl (by (try simp only [List.map_toArray, List.map_cons, List.map_nil]); first | done | rfl | (simp only [List.length_drop, List.length_take]; rfl)) ?_; (with_reducible refine (tree_may.calls k2 ((rd_T25 l0 x27_2).f0) ((rd_T25 l0 x27_2).f1) ((rd_T25 l0 x27_2).f2) ((rd_T25 l0 x27_2).f3) _ _ ((rd_T25 l0 x27_2).f4) true _ ?side1 ?side2 A13.out).mono ?_); (case side1 => exact Kd.C_below HR179_4.out (by repeat (first | (with_reducible first | exact HB.out | apply below_alloc | apply pw_below_drewN | apply below_drew1 | refine below_set ?_ GE180.out) | exact HB.out))); (case side2 => exact HC179_4.out); rintro e w30 ⟨rfl, hb⟩; refine ⟨_, rfl, ?_⟩; have n0_ := Aside0.mk (blk_below (g := gb180) (o := .cells #[.int .i64 ((rd_T25 l0 x27_2).f0), .string ((rd_T25 l0 x27_2).f1), .string ((rd_T25 l0 x27_2).f2), .string ((rd_T25 l0 x27_2).f3), .slice A179_4 ((rd_T25 l0 x27_2).f4).length c179_4] 25 (0, 0)) (by (with_reducible repeat (first | refine blk_drewN ?_ _ | refine blk_drew ?_ | refine blk_alloc ?_ _)); refine blk_put (cs := #[.int .i64 ((rd_T25 l0 x27_2).f0), .string ((rd_T25 l0 x27_2).f1), .string ((rd_T25 l0 x27_2).f2), .string ((rd_T25 l0 x27_2).f3), .slice none 0 0]) ?_ 4 _ rfl; (with_reducible repeat (first | refine blk_drewN ?_ _ | refine blk_drew ?_ | refine blk_alloc ?_ _)); refine blk_put (cs := #[.int .i64 ((rd_T25 l0 x27_2).f0), .string ((rd_T25 l0 x27_2).f1), .string ((rd_T25 l0 x27_2).f2), .string (⟨#[]⟩ : ByteArray), .slice none 0 0]) ?_ 3 _ rfl; (with_reducible repeat (first | refine blk_drewN ?_ _ | refine blk_drew ?_ | refine blk_alloc ?_ _)); refine blk_put (cs := #[.int .i64 ((rd_T25 l0 x27_2).f0), .string ((rd_T25 l0 x27_2).f1), .string (⟨#[]⟩ : ByteArray), .string (⟨#[]⟩ : ByteArray), .slice none 0 0]) ?_ 2 _ rfl; (with_reducible repeat (first | refine blk_drewN ?_ _ | refine blk_drew ?_ | refine blk_alloc ?_ _)); refine blk_put (cs := #[.int .i64 ((rd_T25 l0 x27_2).f0), .string (⟨#[]⟩ : ByteArray), .string (⟨#[]⟩ : ByteArray), .string (⟨#[]⟩ : ByteArray), .slice none 0 0]) ?_ 1 _ rfl; (with_reducible repeat (first | refine blk_drewN ?_ _ | refine blk_drew ?_ | refine blk_alloc ?_ _)); refine blk_put (cs := #[.int .i64 0, .string (⟨#[]⟩ : ByteArray), .string (⟨#[]⟩ : ByteArray), .string (⟨#[]⟩ : ByteArray), .slice none 0 0]) ?_ 0 _ rfl; (with_reducible repeat (first | refine blk_drewN ?_ _ | refine blk_drew ?_ | refine blk_alloc ?_ _)); exact BK180.out) hb); have n1_ := Aside0.mk (below_step (by repeat (first | (with_reducible first | exact HB.out | apply below_alloc | apply pw_below_drewN | apply below_drew1 | refine below_set ?_ GE180.out) | exact HB.out)) hb); clear BK180; clear HB; have BK180 := n0_; have HB := n1_; clear n0_ n1_; (try clear hb); (try clear hb2); (try clear hk); (try clear hi); have hcz31_0 : w30.cell? ⟨gb180, 0, none⟩ = some (.int .i64 ((rd_T25 l0 x27_2).f0)) := (blk_cell BK180.out 0).trans rfl; have hcz31_1 : w30.cell? ⟨gb180, 1, none⟩ = some (.string ((rd_T25 l0 x27_2).f1)) := (blk_cell BK180.out 1).trans rfl; have hcz31_2 : w30.cell? ⟨gb180, 2, none⟩ = some (.string ((rd_T25 l0 x27_2).f2)) := (blk_cell BK180.out 2).trans rfl; have hcz31_3 : w30.cell? ⟨gb180, 3, none⟩ = some (.string ((rd_T25 l0 x27_2).f3)) := (blk_cell BK180.out 3).trans rfl; have hcz31_4 : w30.cell? ⟨gb180, 4, none⟩ = some (.slice A179_4 ((rd_T25 l0 x27_2).f4).length c179_4) := (blk_cell BK180.out 4).trans rfl; have hfz31_0 := blk_frozen BK180.out 0; have hfz31_1 := blk_frozen BK180.out 1; have hfz31_2 := blk_frozen BK180.out 2; have hfz31_3 := blk_frozen BK180.out 3; have hfz31_4 := blk_frozen BK180.out 4) | (go_at_call 43; (with_reducible refine (tree_head.calls ((rd_T25 l0 x27_2).f0) ((rd_T25 l0 x27_2).f1) ((rd_T25 l0 x27_2).f2) ((rd_T25 l0 x27_2).f3) _ _ ((rd_T25 l0 x27_2).f4) false _ ?side1 ?side2 A15.out).mono ?_); (case side1 => repeat (first | exact (Kd.C_below HR179_4.out HB.out) | (with_reducible refine Kd.C_alloc ?_ _) | (with_reducible refine Kd.C_drewN ?_ _) | (with_reducible refine Kd.C_drew ?_))); (case side2 => exact HC179_4.out); rintro e w32 ⟨rfl, hb⟩; have n0_ := Aside0.mk (blk_below (g := gb180) (o := .cells #[.int .i64 ((rd_T25 l0 x27_2).f0), .string ((rd_T25 l0 x27_2).f1), .string ((rd_T25 l0 x27_2).f2), .string ((rd_T25 l0 x27_2).f3), .slice A179_4 ((rd_T25 l0 x27_2).f4).length c179_4] 25 (0, 0)) (by (with_reducible repeat (first | refine blk_drewN ?_ _ | refine blk_drew ?_ | refine blk_alloc ?_ _)); exact BK180.out) hb); have n1_ := Aside0.mk (below_step (by repeat (first | (with_reducible first | exact HB.out | apply below_alloc | apply pw_below_drewN | apply below_drew1 | refine below_set ?_ GE180.out) | exact HB.out)) hb); clear BK180; clear HB; have BK180 := n0_; have HB := n1_; clear n0_ n1_; (try clear hb); (try clear hb2); (try clear hk); (try clear hi)))
                      go_roundg k2
                      case measure => have := HJ2.out; have := HK2.out; omega
                      case rel => exact ⟨(wrap64 (x27_2 + 1)), (by first | rfl | (simp; done) | (simp [*]; done)), H', ⟨by have := HJ2.out; have := HK2.out; omega⟩, ⟨by repeat (first | (with_reducible first | exact HB.out | apply below_alloc | apply pw_below_drewN | apply below_drew1 | refine below_set ?_ GE180.out) | exact HB.out)⟩⟩
                  · replace c14 := Bool.eq_false_iff.mpr c14
                    subst c14
                    have H1 : (some false) = some r := by rw [if_neg (show ¬ (false = true) by decide)] at H; exact H
                    clear H
                    have H := H1
                    clear H1
                    obtain rfl := Option.some.inj H
                    have p179 : 0 ≤ (x27_2 : Int) := of_decide_eq_true (by first | (with_reducible assumption) | assumption)
                    have q179 : x27_2 < (l0.length : Int) := of_decide_eq_true (by first | (with_reducible assumption) | assumption)
                    obtain ⟨ad179, A179_4, c179_4, e179, hx179_0, hx179_1, hx179_2, hx179_3, hx179_4, hl179_4, hi179_4⟩ := at_T25 HR0.out x27_2 p179 q179
                    cases e179
                    replace hx179_0 := (HB.out.cell (World.block_lt_of_cell? w _ hx179_0)).trans hx179_0
                    replace hx179_1 := (HB.out.cell (World.block_lt_of_cell? w _ hx179_1)).trans hx179_1
                    replace hx179_2 := (HB.out.cell (World.block_lt_of_cell? w _ hx179_2)).trans hx179_2
                    replace hx179_3 := (HB.out.cell (World.block_lt_of_cell? w _ hx179_3)).trans hx179_3
                    replace hx179_4 := (HB.out.cell (World.block_lt_of_cell? w _ hx179_4)).trans hx179_4
                    have HR179_4 := Aside0.mk hi179_4
                    have HC179_4 := Aside0.mk hl179_4
                    clear hi179_4 hl179_4
                    replace p179 := eq_true p179
                    replace q179 := eq_true q179
                    go_wp2_with (first | ((with_reducible refine gate_dst (N := 6) rfl ?_); (try (refine gate_guard (by rfl) ?_; dsimp only)); refine box_event ?hg (N := 6) ?hd (cs := #[.int .i64 0, .string (⟨#[]⟩ : ByteArray), .string (⟨#[]⟩ : ByteArray), .string (⟨#[]⟩ : ByteArray), .slice none 0 0]) (t := 25) ?hr ?_; (case hd => rfl); (case hg => rfl); (case hr => first | (go_simp; done) | (go_simp; rfl)); intro gb180 hg w33 hbox hb; have n0_ := Aside0.mk (below_step (by repeat (first | (with_reducible first | exact HB.out | apply below_alloc | apply pw_below_drewN | apply below_drew1) | exact HB.out)) hb); have n1_ := Aside0.mk (hbox); have n2_ := Aside0.mk ((by rw [hg]; exact (below_size (by repeat (first | (with_reducible first | exact HB.out | apply below_alloc | apply pw_below_drewN | apply below_drew1) | exact HB.out))) : w.heap.size ≤ gb180)); have n3_ := Aside0.mk ((by rw [hg]; exact (below_size (by repeat (first | (with_reducible first | exact HB.out | apply below_alloc | apply pw_below_drewN | apply below_drew1) | exact HB.out))) : w.heap.size ≤ gb180)); clear HB; have HB := n0_; have BK180 := n1_; have GW180 := n2_; have GE180 := n3_; clear n0_ n1_ n2_ n3_; clear hb hbox hg; have hcz34_0 : w33.cell? ⟨gb180, 0, none⟩ = some (.int .i64 0) := (blk_cell BK180.out 0).trans rfl; have hcz34_1 : w33.cell? ⟨gb180, 1, none⟩ = some (.string (⟨#[]⟩ : ByteArray)) := (blk_cell BK180.out 1).trans rfl; have hcz34_2 : w33.cell? ⟨gb180, 2, none⟩ = some (.string (⟨#[]⟩ : ByteArray)) := (blk_cell BK180.out 2).trans rfl; have hcz34_3 : w33.cell? ⟨gb180, 3, none⟩ = some (.string (⟨#[]⟩ : ByteArray)) := (blk_cell BK180.out 3).trans rfl; have hcz34_4 : w33.cell? ⟨gb180, 4, none⟩ = some (.slice none 0 0) := (blk_cell BK180.out 4).trans rfl; have hfz34_0 := blk_frozen BK180.out 0; have hfz34_1 := blk_frozen BK180.out 1; have hfz34_2 := blk_frozen BK180.out 2; have hfz34_3 := blk_frozen BK180.out 3; have hfz34_4 := blk_frozen BK180.out 4) | ((with_reducible refine gate_callee (f := 42) rfl ?_); refine goesL_ (some 33) rfl rfl Try.func42 (by kernel_rfl) rfl #[.agg #[.int .i64 ((rd_T25 l0 x27_2).f0), .string ((rd_T25 l0 x27_2).f1), .string ((rd_T25 l0 x27_2).f2), .string ((rd_T25 l0 x27_2).f3), .slice A179_4 ((rd_T25 l0 x27_2).f4).length c179_4]] rfl (by (try simp only [List.map_toArray, List.map_cons, List.map_nil]); first | done | rfl | (simp only [List.length_drop, List.length_take]; rfl)) ?_; (with_reducible refine (tree_may.calls k2 ((rd_T25 l0 x27_2).f0) ((rd_T25 l0 x27_2).f1) ((rd_T25 l0 x27_2).f2) ((rd_T25 l0 x27_2).f3) _ _ ((rd_T25 l0 x27_2).f4) false _ ?side1 ?side2 A13.out).mono ?_); (case side1 => exact Kd.C_below HR179_4.out (by repeat (first | (with_reducible first | exact HB.out | apply below_alloc | apply pw_below_drewN | apply below_drew1 | refine below_set ?_ GE180.out) | exact HB.out))); (case side2 => exact HC179_4.out); rintro e w35 ⟨rfl, hb⟩; refine ⟨_, rfl, ?_⟩; have n0_ := Aside0.mk (blk_below (g := gb180) (o := .cells #[.int .i64 ((rd_T25 l0 x27_2).f0), .string ((rd_T25 l0 x27_2).f1), .string ((rd_T25 l0 x27_2).f2), .string ((rd_T25 l0 x27_2).f3), .slice A179_4 ((rd_T25 l0 x27_2).f4).length c179_4] 25 (0, 0)) (by (with_reducible repeat (first | refine blk_drewN ?_ _ | refine blk_drew ?_ | refine blk_alloc ?_ _)); refine blk_put (cs := #[.int .i64 ((rd_T25 l0 x27_2).f0), .string ((rd_T25 l0 x27_2).f1), .string ((rd_T25 l0 x27_2).f2), .string ((rd_T25 l0 x27_2).f3), .slice none 0 0]) ?_ 4 _ rfl; (with_reducible repeat (first | refine blk_drewN ?_ _ | refine blk_drew ?_ | refine blk_alloc ?_ _)); refine blk_put (cs := #[.int .i64 ((rd_T25 l0 x27_2).f0), .string ((rd_T25 l0 x27_2).f1), .string ((rd_T25 l0 x27_2).f2), .string (⟨#[]⟩ : ByteArray), .slice none 0 0]) ?_ 3 _ rfl; (with_reducible repeat (first | refine blk_drewN ?_ _ | refine blk_drew ?_ | refine blk_alloc ?_ _)); refine blk_put (cs := #[.int .i64 ((rd_T25 l0 x27_2).f0), .string ((rd_T25 l0 x27_2).f1), .string (⟨#[]⟩ : ByteArray), .string (⟨#[]⟩ : ByteArray), .slice none 0 0]) ?_ 2 _ rfl; (with_reducible repeat (first | refine blk_drewN ?_ _ | refine blk_drew ?_ | refine blk_alloc ?_ _)); refine blk_put (cs := #[.int .i64 ((rd_T25 l0 x27_2).f0), .string (⟨#[]⟩ : ByteArray), .string (⟨#[]⟩ : ByteArray), .string (⟨#[]⟩ : ByteArray), .slice none 0 0]) ?_ 1 _ rfl; (with_reducible repeat (first | refine blk_drewN ?_ _ | refine blk_drew ?_ | refine blk_alloc ?_ _)); refine blk_put (cs := #[.int .i64 0, .string (⟨#[]⟩ : ByteArray), .string (⟨#[]⟩ : ByteArray), .string (⟨#[]⟩ : ByteArray), .slice none 0 0]) ?_ 0 _ rfl; (with_reducible repeat (first | refine blk_drewN ?_ _ | refine blk_drew ?_ | refine blk_alloc ?_ _)); exact BK180.out) hb); have n1_ := Aside0.mk (below_step (by repeat (first | (with_reducible first | exact HB.out | apply below_alloc | apply pw_below_drewN | apply below_drew1 | refine below_set ?_ GE180.out) | exact HB.out)) hb); clear BK180; clear HB; have BK180 := n0_; have HB := n1_; clear n0_ n1_; (try clear hb); (try clear hb2); (try clear hk); (try clear hi)))
                    go_ret
                    exact ⟨by first | rfl | (simp [errW_none, errW_some] <;> rfl) | (simp [*, errW_none, errW_some] <;> rfl), by repeat (first | (with_reducible first | exact HB.out | apply below_alloc | apply pw_below_drewN | apply below_drew1 | refine below_set ?_ GE180.out) | exact HB.out)⟩
                · rw [if_neg c12] at H
                  exact absurd H (by simp)
              · rw [if_neg c11] at H
                exact absurd H (by simp)
            · rw [if_neg c10] at H
              have c10b0 : decide (x27_2 < (l0.length : Int)) = false := decide_eq_false c10
              clear c10
              obtain rfl := Option.some.inj H
              go_wp2
              go_ret
              exact ⟨by first | rfl | (simp [errW_none, errW_some] <;> rfl) | (simp [*, errW_none, errW_some] <;> rfl), by repeat (first | (with_reducible first | exact HB.out | apply below_alloc | apply pw_below_drewN | apply below_drew1) | exact HB.out)⟩

/-! ### api_Node_64: function 64 -/
def api_Node_64.f  (a1 : Int) : Option ((List (S25))) := if a1 < 0 then (none) else (if (wrap64 a1) > 0 then (if 0 ≤ (wrap64 a1) then (if ([] : List (S25)).length + (wrap64 a1 : Int).toNat < 1759218604441 then ((some (([] : List (S25)) ++ List.replicate (wrap64 a1 : Int).toNat z25 : List (S25))).bind fun y183 => (if 0 ≤ (y183.length : Int) then (some (y183.take (0 : Int).toNat)) else (none))) else (none)) else (none)) else (some ([] : List (S25))))
set_option maxHeartbeats 8000000 in
set_option maxRecDepth 100000 in
theorem api_Node_64.calls  (a1 : Int) (r : List (S25)) (w : World) (h : api_Node_64.f a1 = some r) :
    Calls Try.prog 64 #[.slice none 0 0, .int .i64 a1] w fun e w' => ∃ v0_ : Value, e = .returned (v0_) ∧ Kd.S k25 25 w' w.heap.size (fun _ => True) v0_ r ∧ Below w.heap.size w w' := by
  have HB := Aside0.mk (Below.refl w.heap.size w)
  have H : (if a1 < 0 then (none) else (if (wrap64 a1) > 0 then (if 0 ≤ (wrap64 a1) then (if ([] : List (S25)).length + (wrap64 a1 : Int).toNat < 1759218604441 then ((some (([] : List (S25)) ++ List.replicate (wrap64 a1 : Int).toNat z25 : List (S25))).bind fun y183 => (if 0 ≤ (y183.length : Int) then (some (y183.take (0 : Int).toNat)) else (none))) else (none)) else (none)) else (some ([] : List (S25))))) = some r := h
  clear h
  by_cases c3 : a1 < 0
  · rw [if_pos c3] at H
    exact absurd H (by simp)
  · rw [if_neg c3] at H
    have c3b0 : decide (a1 < 0) = false := decide_eq_false c3
    clear c3
    by_cases c4 : (wrap64 a1) > 0
    · rw [if_pos c4] at H
      have c4b0 : decide (0 < (wrap64 a1)) = true := decide_eq_true c4
      clear c4
      obtain ⟨ji5, hji5⟩ : ∃ j_ : Int, (wrap64 a1) = j_ := ⟨_, rfl⟩
      replace H : (if 0 ≤ (ji5) then (if ([] : List (S25)).length + (ji5 : Int).toNat < 1759218604441 then ((some (([] : List (S25)) ++ List.replicate (ji5 : Int).toNat z25 : List (S25))).bind fun y183 => (if 0 ≤ (y183.length : Int) then (some (y183.take (0 : Int).toNat)) else (none))) else (none)) else (none)) = some r := by first | (rw [hji5] at H; exact H) | (simp only [hji5] at H ⊢; exact H)
      (try rw [hji5] at c4b0)
      have hji5w : (IntKind.i64.wrap a1) = ji5 := (i64_w _).trans hji5
      by_cases c6 : 0 ≤ (ji5)
      · rw [if_pos c6] at H
        have c6b0 := eq_true c6
        have c6b1 : decide (0 ≤ (ji5)) = true := decide_eq_true c6
        clear c6
        by_cases c7 : ([] : List (S25)).length + (ji5 : Int).toNat < 1759218604441
        · rw [if_pos c7] at H
          have LMc7 := Aside0.mk c7
          clear c7
          obtain ⟨y183, hy183⟩ : ∃ y_ : List (S25), y_ = (([] : List (S25)) ++ List.replicate (ji5 : Int).toNat z25) := ⟨_, rfl⟩
          replace H : (if 0 ≤ (y183.length : Int) then (some (y183.take (0 : Int).toNat)) else (none)) = some r := by first | (rw [hy183]; with_reducible exact H) | (have H2_ := (Option.bind_some _ _).symm.trans H; rw [hy183]; with_reducible exact H2_) | (have H2_ := (Option.bind_some _ _).symm.trans H; with_reducible exact H2_) | with_reducible exact H | (rw [hy183]; exact H) | exact H
          have Ny183 := Aside0.mk hy183
          clear hy183
          by_cases c8 : 0 ≤ (y183.length : Int)
          · rw [if_pos c8] at H
            have c8b0 := eq_true c8
            have c8b1 : decide (0 ≤ (y183.length : Int)) = true := decide_eq_true c8
            clear c8
            obtain ⟨y186, hy186⟩ : ∃ y_ : List (S25), y_ = (y183.take (0 : Int).toNat) := ⟨_, rfl⟩
            replace H : (some y186) = some r := by first | (rw [hy186]; with_reducible exact H) | (have H2_ := (Option.bind_some _ _).symm.trans H; rw [hy186]; with_reducible exact H2_) | (have H2_ := (Option.bind_some _ _).symm.trans H; with_reducible exact H2_) | with_reducible exact H | (rw [hy186]; exact H) | exact H
            have Ny186 := Aside0.mk hy186
            clear hy186
            obtain rfl := Option.some.inj H
            go_enter Try.func64, Try.ntmps64
            go_wp2_with (first | (at_builtin; refine Kd.S_append_zeros k25 (w0 := w) w.heap.size rfl (.tmp 20) (.tmp 21) 22 3 25 (.agg #[(.int .i64 0), (.string ⟨#[]⟩), (.string ⟨#[]⟩), (.string ⟨#[]⟩), (.slice none 0 0)]) 80 rfl Try.underlying22 Try.underlying3 info25 rfl (by decide) (by omega) (.slice none 0 0) ([] : List (S25)) z25 (ji5 : Int) (fun _ => True) rfl rfl (k25_mkM _ _ _ z25 (Kd.R_nil _ _ _ _ _)) ?aF ?aO (of_decide_eq_true (by first | (with_reducible assumption) | assumption)) ?aB ?aS ?aL ?_; (case aB => exact (by repeat (first | (with_reducible first | exact HB.out | apply below_alloc | apply pw_below_drewN | apply below_drew1) | exact HB.out))); (case aF => exact (fun _ _ => trivial)); (case aO => exact ((Kd.S_nil _ _ _ _ _))); (case aS => exact (below_size (by repeat (first | (with_reducible first | exact HB.out | apply below_alloc | apply pw_below_drewN | apply below_drew1) | exact HB.out)))); (case aL => have := LMc7.out; omega); intro v184 w9 ho hb hg hat; rw [← Ny183.out] at ho; have n0_ := Aside0.mk (hb); have n1_ := Aside0.mk (ho); clear HB; have HB := n0_; have HO185 := n1_; clear n0_ n1_; clear ho hb hg hat; obtain ⟨Ao10, co10, eo10⟩ := Kd.S_slice HO185.out; subst eo10; have q11 : (0 : Int) ≤ ((y183.length : Int) : Int) := of_decide_eq_true (by first | (with_reducible assumption) | assumption); obtain ⟨i011, hi011, _, hsz11, _⟩ := info_parts info25; have hcut11 := cut_to (P := Try.prog) 22 25 .i64 Try.underlying22 hi011 Ao10 y183.length co10 0 (by omega) q11 (Kd.S_reads' HO185.out).2.1; have hr11 := Kd.S_take (m := (0 : Int).toNat) HO185.out (by omega); have hy11 : y186.length = (0 : Int).toNat := (by rw [Ny186.out, List.length_take]; omega); rw [← Ny186.out] at hr11; rw [← hy11] at hr11 hcut11; clear hy11 hi011 hsz11 HO185; have HO188 := Aside0.mk hr11; clear hr11; replace q11 := eq_true q11))
            go_ret
            exact ⟨_, by first | rfl | (simp [errW_none, errW_some] <;> rfl) | (simp only [← hji5]; first | rfl | (simp [errW_none, errW_some] <;> rfl)) | (simp [*, errW_none, errW_some] <;> rfl), by (with_reducible repeat (first | apply Kd.S_alloc | apply Kd.S_drewN | apply Kd.S_drew)); exact HO188.out, by repeat (first | (with_reducible first | exact HB.out | apply below_alloc | apply pw_below_drewN | apply below_drew1) | exact HB.out)⟩
          · rw [if_neg c8] at H
            exact absurd H (by simp)
        · rw [if_neg c7] at H
          exact absurd H (by simp)
      · rw [if_neg c6] at H
        exact absurd H (by simp)
    · rw [if_neg c4] at H
      have c4b0 : decide (0 < (wrap64 a1)) = false := decide_eq_false c4
      clear c4
      obtain rfl := Option.some.inj H
      go_enter Try.func64, Try.ntmps64
      go_wp2
      go_ret
      exact ⟨_, by first | rfl | (simp [errW_none, errW_some] <;> rfl) | (simp [*, errW_none, errW_some] <;> rfl), by first | exact Kd.S_nil _ _ _ _ _ | exact Kd.N_nil _ _ _ _ _ | exact Kd.V_nil _ _ _ _ _ | exact Kd.Q_nil _ _ _ _ _ | exact Kd.R_nil _ _ _ _ _, by repeat (first | (with_reducible first | exact HB.out | apply below_alloc | apply pw_below_drewN | apply below_drew1) | exact HB.out)⟩

end Go.Proofs.Ytdelccahgchadaa.P
