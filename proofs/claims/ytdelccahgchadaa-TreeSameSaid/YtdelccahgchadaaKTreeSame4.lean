/- What the law TreeSame rests on, part 5. -/
import Derived.Test.YtdelccahgchadaaKTreeSame3
set_option linter.unusedVariables false
set_option linter.unusedSimpArgs false
section
namespace Go.Proofs.Ytdelccahgchadaa.P
open Go.RowKit Go.Proofs.YtdelccahgchadaaW.PrintWords Go.Proofs.YtdelccahgchadaaW.PrintLast Go.Proofs.YtdelccahgchadaaW.PrintMore
attribute [local go_sem] max2_int min2_int max_two min_two max_three min_three max_four min_four   
set_option linter.unusedVariables false
set_option linter.unusedSimpArgs false
def tree_Same_1.f (k : Nat) (a0_0 : Int) (a0_1 : ByteArray) (a0_2 : ByteArray) (a0_3 : ByteArray) (l0_4 : List ByteArray) (a1_0 : Int) (a1_1 : ByteArray) (a1_2 : ByteArray) (a1_3 : ByteArray) (l1_4 : List ByteArray) : Option (Bool) := if a0_0 = a1_0 then (if a0_1.toList = a1_1.toList then (if a0_2.toList = a1_2.toList then (if a0_3.toList = a1_3.toList then ((slices_Equal_string_string.f k l0_4 l1_4).bind fun t385 => (some t385)) else (some false)) else (some false)) else (some false)) else (some false)
theorem tree_Same_1.mono : ∀ a0 a1 a2 a3 a4 a5 a6 a7 a8 a9 k, LeO (tree_Same_1.f k a0 a1 a2 a3 a4 a5 a6 a7 a8 a9) (tree_Same_1.f (k + 1) a0 a1 a2 a3 a4 a5 a6 a7 a8 a9) := by
  intro a0 a1 a2 a3 a4 a5 a6 a7 a8 a9 k
  unfold tree_Same_1.f
  repeat' first
      | (with_reducible exact slices_Equal_string_string.mono _ _ _)
      | (with_reducible exact LeO.refl _)
      | (with_reducible exact LeO.none _)
      | (with_reducible refine LeO.ite ?_ ?_)
      | (with_reducible refine LeO.bind ?_ (fun _ => ?_))
      | exact slices_Equal_string_string.mono _ _ _
      | exact LeO.none _
      | refine LeO.ite ?_ ?_
      | refine LeO.bind ?_ (fun _ => ?_)
set_option maxHeartbeats 8000000 in
set_option maxRecDepth 100000 in
theorem tree_Same_1.calls (k : Nat) (a0_0 : Int) (a0_1 : ByteArray) (a0_2 : ByteArray) (a0_3 : ByteArray) (A0_4 : Option Addr) (c0_4 : Nat) (l0_4 : List ByteArray) (a1_0 : Int) (a1_1 : ByteArray) (a1_2 : ByteArray) (a1_3 : ByteArray) (A1_4 : Option Addr) (c1_4 : Nat) (l1_4 : List ByteArray) (r : Bool) (w : World) (hr0_4 : Kd.C Kd.string w A0_4 l0_4.length l0_4) (hc0_4 : l0_4.length ≤ c0_4) (hr1_4 : Kd.C Kd.string w A1_4 l1_4.length l1_4) (hc1_4 : l1_4.length ≤ c1_4) (h : tree_Same_1.f k a0_0 a0_1 a0_2 a0_3 l0_4 a1_0 a1_1 a1_2 a1_3 l1_4 = some r) :
    Calls Try.prog 46 #[.agg #[.int .i64 a0_0, .string a0_1, .string a0_2, .string a0_3, .slice A0_4 l0_4.length c0_4], .agg #[.int .i64 a1_0, .string a1_1, .string a1_2, .string a1_3, .slice A1_4 l1_4.length c1_4]] w fun e w' => e = .returned (.bool r) ∧ Below w.heap.size w w' := by
  have hu25 := Try.underlying25
  have HR0_4 := Aside0.mk hr0_4
  have HC0_4 := Aside0.mk hc0_4
  clear hr0_4 hc0_4
  have HR1_4 := Aside0.mk hr1_4
  have HC1_4 := Aside0.mk hc1_4
  clear hr1_4 hc1_4
  have HB := Aside0.mk (Below.refl w.heap.size w)
  have H : (if a0_0 = a1_0 then (if a0_1.toList = a1_1.toList then (if a0_2.toList = a1_2.toList then (if a0_3.toList = a1_3.toList then ((slices_Equal_string_string.f k l0_4 l1_4).bind fun t385 => (some t385)) else (some false)) else (some false)) else (some false)) else (some false)) = some r := h
  clear h
  by_cases c3 : a0_0 = a1_0
  · rw [if_pos c3] at H
    have c3b0 : (a0_0 == a1_0) = true := beq_iff_eq.mpr c3
    have c3b1 : (a0_0 != a1_0) = false := bne_eq_false_iff_eq.mpr c3
    clear c3
    by_cases c4 : a0_1.toList = a1_1.toList
    · rw [if_pos c4] at H
      have c4b0 : (a0_1.toList == a1_1.toList) = true := beq_iff_eq.mpr c4
      have c4b1 : (a0_1.toList != a1_1.toList) = false := bne_eq_false_iff_eq.mpr c4
      clear c4
      by_cases c5 : a0_2.toList = a1_2.toList
      · rw [if_pos c5] at H
        have c5b0 : (a0_2.toList == a1_2.toList) = true := beq_iff_eq.mpr c5
        have c5b1 : (a0_2.toList != a1_2.toList) = false := bne_eq_false_iff_eq.mpr c5
        clear c5
        by_cases c6 : a0_3.toList = a1_3.toList
        · rw [if_pos c6] at H
          have c6b0 : (a0_3.toList == a1_3.toList) = true := beq_iff_eq.mpr c6
          have c6b1 : (a0_3.toList != a1_3.toList) = false := bne_eq_false_iff_eq.mpr c6
          clear c6
          replace H := Option.bind_eq_some_iff.mp H
          obtain ⟨t385, A70, H⟩ := H
          replace H : (some t385) = some r := H
          have A7 := Aside0.mk A70
          clear A70
          obtain rfl := Option.some.inj H
          go_enter Try.func46, Try.ntmps46
          go_wp2_with (first | ((with_reducible refine gate_dst (N := 2) rfl ?_); refine box_event ?hg (N := 2) ?hd (cs := #[.int .i64 a0_0, .string a0_1, .string a0_2, .string a0_3, .slice A0_4 l0_4.length c0_4]) (t := 25) ?hr ?_; (case hd => rfl); (case hg => rfl); (case hr => first | (go_simp; done) | (go_simp; rfl)); intro gb383 hg w8 hbox hb; have n0_ := Aside0.mk (below_step (by repeat (first | (with_reducible first | exact HB.out | apply below_alloc | apply pw_below_drewN | apply below_drew1) | exact HB.out)) hb); have n1_ := Aside0.mk (hbox); have n2_ := Aside0.mk ((by rw [hg]; exact (below_size (by repeat (first | (with_reducible first | exact HB.out | apply below_alloc | apply pw_below_drewN | apply below_drew1) | exact HB.out))) : w.heap.size ≤ gb383)); have n3_ := Aside0.mk ((by rw [hg]; exact (below_size (by repeat (first | (with_reducible first | exact HB.out | apply below_alloc | apply pw_below_drewN | apply below_drew1) | exact HB.out))) : w.heap.size ≤ gb383)); clear HB; have HB := n0_; have BK383 := n1_; have GW383 := n2_; have GE383 := n3_; clear n0_ n1_ n2_ n3_; clear hb hbox hg) | ((with_reducible refine gate_dst (N := 3) rfl ?_); refine box_event ?hg (N := 3) ?hd (cs := #[.int .i64 a1_0, .string a1_1, .string a1_2, .string a1_3, .slice A1_4 l1_4.length c1_4]) (t := 25) ?hr ?_; (case hd => rfl); (case hg => rfl); (case hr => first | (go_simp; done) | (go_simp; rfl)); intro gb384 hg w9 hbox hb; have n0_ := Aside0.mk (blk_below (g := gb383) (o := .cells #[.int .i64 a0_0, .string a0_1, .string a0_2, .string a0_3, .slice A0_4 l0_4.length c0_4] 25 (0, 0)) (by (with_reducible repeat (first | refine blk_drewN ?_ _ | refine blk_drew ?_ | refine blk_alloc ?_ _)); exact BK383.out) hb); have n1_ := Aside0.mk (below_step (by repeat (first | (with_reducible first | exact HB.out | apply below_alloc | apply pw_below_drewN | apply below_drew1 | refine below_set ?_ GE383.out) | exact HB.out)) hb); have n2_ := Aside0.mk (hbox); have n3_ := Aside0.mk ((by rw [hg]; exact (below_size (by repeat (first | (with_reducible first | exact HB.out | apply below_alloc | apply pw_below_drewN | apply below_drew1 | refine below_set ?_ GE383.out) | exact HB.out))) : w.heap.size ≤ gb384)); have n4_ := Aside0.mk ((by rw [hg]; exact (below_size (by repeat (first | (with_reducible first | exact HB.out | apply below_alloc | apply pw_below_drewN | apply below_drew1 | refine below_set ?_ GE383.out) | exact HB.out))) : w.heap.size ≤ gb384)); have n5_ := Aside0.mk ((by rw [hg]; exact Nat.ne_of_lt (blk_lt (g := gb383) (o := .cells #[.int .i64 a0_0, .string a0_1, .string a0_2, .string a0_3, .slice A0_4 l0_4.length c0_4] 25 (0, 0)) (by (with_reducible repeat (first | refine blk_drewN ?_ _ | refine blk_drew ?_ | refine blk_alloc ?_ _)); exact BK383.out)) : gb383 ≠ gb384)); have n6_ := Aside0.mk ((by rw [hg]; exact Nat.ne_of_gt (blk_lt (g := gb383) (o := .cells #[.int .i64 a0_0, .string a0_1, .string a0_2, .string a0_3, .slice A0_4 l0_4.length c0_4] 25 (0, 0)) (by (with_reducible repeat (first | refine blk_drewN ?_ _ | refine blk_drew ?_ | refine blk_alloc ?_ _)); exact BK383.out)) : gb384 ≠ gb383)); clear BK383; clear HB; have BK383 := n0_; have HB := n1_; have BK384 := n2_; have GW384 := n3_; have GE384 := n4_; have NB383_384 := n5_; have NB384_383 := n6_; clear n0_ n1_ n2_ n3_ n4_ n5_ n6_; clear hb hbox hg; have hnb10 := NB383_384.out; have hnc10 := NB384_383.out; have hcz11_0 : w9.cell? ⟨gb383, 0, none⟩ = some (.int .i64 a0_0) := (blk_cell BK383.out 0).trans rfl; have hcz11_1 : w9.cell? ⟨gb383, 1, none⟩ = some (.string a0_1) := (blk_cell BK383.out 1).trans rfl; have hcz11_2 : w9.cell? ⟨gb383, 2, none⟩ = some (.string a0_2) := (blk_cell BK383.out 2).trans rfl; have hcz11_3 : w9.cell? ⟨gb383, 3, none⟩ = some (.string a0_3) := (blk_cell BK383.out 3).trans rfl; have hcz11_4 : w9.cell? ⟨gb383, 4, none⟩ = some (.slice A0_4 l0_4.length c0_4) := (blk_cell BK383.out 4).trans rfl; have hfz11_0 := blk_frozen BK383.out 0; have hfz11_1 := blk_frozen BK383.out 1; have hfz11_2 := blk_frozen BK383.out 2; have hfz11_3 := blk_frozen BK383.out 3; have hfz11_4 := blk_frozen BK383.out 4; have hcz12_0 : w9.cell? ⟨gb384, 0, none⟩ = some (.int .i64 a1_0) := (blk_cell BK384.out 0).trans rfl; have hcz12_1 : w9.cell? ⟨gb384, 1, none⟩ = some (.string a1_1) := (blk_cell BK384.out 1).trans rfl; have hcz12_2 : w9.cell? ⟨gb384, 2, none⟩ = some (.string a1_2) := (blk_cell BK384.out 2).trans rfl; have hcz12_3 : w9.cell? ⟨gb384, 3, none⟩ = some (.string a1_3) := (blk_cell BK384.out 3).trans rfl; have hcz12_4 : w9.cell? ⟨gb384, 4, none⟩ = some (.slice A1_4 l1_4.length c1_4) := (blk_cell BK384.out 4).trans rfl; have hfz12_0 := blk_frozen BK384.out 0; have hfz12_1 := blk_frozen BK384.out 1; have hfz12_2 := blk_frozen BK384.out 2; have hfz12_3 := blk_frozen BK384.out 3; have hfz12_4 := blk_frozen BK384.out 4) | (go_at_call 47; (with_reducible refine (slices_Equal_string_string.calls k _ _ l0_4 _ _ l1_4 t385 _ ?side1 ?side2 ?side3 ?side4 A7.out).mono ?_); (case side1 => repeat (first | exact (Kd.C_below HR0_4.out HB.out) | (with_reducible refine Kd.C_alloc ?_ _) | (with_reducible refine Kd.C_drewN ?_ _) | (with_reducible refine Kd.C_drew ?_))); (case side2 => exact HC0_4.out); (case side3 => repeat (first | exact (Kd.C_below HR1_4.out HB.out) | (with_reducible refine Kd.C_alloc ?_ _) | (with_reducible refine Kd.C_drewN ?_ _) | (with_reducible refine Kd.C_drew ?_))); (case side4 => exact HC1_4.out); rintro e w' ⟨rfl, ⟨nd, rfl⟩⟩))
          go_ret
          exact ⟨by first | rfl | (simp [errW_none, errW_some] <;> rfl) | (simp [*, errW_none, errW_some] <;> rfl), by repeat (first | (with_reducible first | exact HB.out | apply below_alloc | apply pw_below_drewN | apply below_drew1 | refine below_set ?_ GE383.out | refine below_set ?_ GE384.out) | exact HB.out)⟩
        · rw [if_neg c6] at H
          have c6b0 : (a0_3.toList == a1_3.toList) = false := beq_eq_false_iff_ne.mpr c6
          have c6b1 : (a0_3.toList != a1_3.toList) = true := bne_iff_ne.mpr c6
          obtain rfl := Option.some.inj H
          go_enter Try.func46, Try.ntmps46
          go_wp2_with (first | ((with_reducible refine gate_dst (N := 2) rfl ?_); refine box_event ?hg (N := 2) ?hd (cs := #[.int .i64 a0_0, .string a0_1, .string a0_2, .string a0_3, .slice A0_4 l0_4.length c0_4]) (t := 25) ?hr ?_; (case hd => rfl); (case hg => rfl); (case hr => first | (go_simp; done) | (go_simp; rfl)); intro gb383 hg w13 hbox hb; have n0_ := Aside0.mk (below_step (by repeat (first | (with_reducible first | exact HB.out | apply below_alloc | apply pw_below_drewN | apply below_drew1) | exact HB.out)) hb); have n1_ := Aside0.mk (hbox); have n2_ := Aside0.mk ((by rw [hg]; exact (below_size (by repeat (first | (with_reducible first | exact HB.out | apply below_alloc | apply pw_below_drewN | apply below_drew1) | exact HB.out))) : w.heap.size ≤ gb383)); have n3_ := Aside0.mk ((by rw [hg]; exact (below_size (by repeat (first | (with_reducible first | exact HB.out | apply below_alloc | apply pw_below_drewN | apply below_drew1) | exact HB.out))) : w.heap.size ≤ gb383)); clear HB; have HB := n0_; have BK383 := n1_; have GW383 := n2_; have GE383 := n3_; clear n0_ n1_ n2_ n3_; clear hb hbox hg) | ((with_reducible refine gate_dst (N := 3) rfl ?_); refine box_event ?hg (N := 3) ?hd (cs := #[.int .i64 a1_0, .string a1_1, .string a1_2, .string a1_3, .slice A1_4 l1_4.length c1_4]) (t := 25) ?hr ?_; (case hd => rfl); (case hg => rfl); (case hr => first | (go_simp; done) | (go_simp; rfl)); intro gb384 hg w14 hbox hb; have n0_ := Aside0.mk (blk_below (g := gb383) (o := .cells #[.int .i64 a0_0, .string a0_1, .string a0_2, .string a0_3, .slice A0_4 l0_4.length c0_4] 25 (0, 0)) (by (with_reducible repeat (first | refine blk_drewN ?_ _ | refine blk_drew ?_ | refine blk_alloc ?_ _)); exact BK383.out) hb); have n1_ := Aside0.mk (below_step (by repeat (first | (with_reducible first | exact HB.out | apply below_alloc | apply pw_below_drewN | apply below_drew1 | refine below_set ?_ GE383.out) | exact HB.out)) hb); have n2_ := Aside0.mk (hbox); have n3_ := Aside0.mk ((by rw [hg]; exact (below_size (by repeat (first | (with_reducible first | exact HB.out | apply below_alloc | apply pw_below_drewN | apply below_drew1 | refine below_set ?_ GE383.out) | exact HB.out))) : w.heap.size ≤ gb384)); have n4_ := Aside0.mk ((by rw [hg]; exact (below_size (by repeat (first | (with_reducible first | exact HB.out | apply below_alloc | apply pw_below_drewN | apply below_drew1 | refine below_set ?_ GE383.out) | exact HB.out))) : w.heap.size ≤ gb384)); have n5_ := Aside0.mk ((by rw [hg]; exact Nat.ne_of_lt (blk_lt (g := gb383) (o := .cells #[.int .i64 a0_0, .string a0_1, .string a0_2, .string a0_3, .slice A0_4 l0_4.length c0_4] 25 (0, 0)) (by (with_reducible repeat (first | refine blk_drewN ?_ _ | refine blk_drew ?_ | refine blk_alloc ?_ _)); exact BK383.out)) : gb383 ≠ gb384)); have n6_ := Aside0.mk ((by rw [hg]; exact Nat.ne_of_gt (blk_lt (g := gb383) (o := .cells #[.int .i64 a0_0, .string a0_1, .string a0_2, .string a0_3, .slice A0_4 l0_4.length c0_4] 25 (0, 0)) (by (with_reducible repeat (first | refine blk_drewN ?_ _ | refine blk_drew ?_ | refine blk_alloc ?_ _)); exact BK383.out)) : gb384 ≠ gb383)); clear BK383; clear HB; have BK383 := n0_; have HB := n1_; have BK384 := n2_; have GW384 := n3_; have GE384 := n4_; have NB383_384 := n5_; have NB384_383 := n6_; clear n0_ n1_ n2_ n3_ n4_ n5_ n6_; clear hb hbox hg; have hnb15 := NB383_384.out; have hnc15 := NB384_383.out; have hcz16_0 : w14.cell? ⟨gb383, 0, none⟩ = some (.int .i64 a0_0) := (blk_cell BK383.out 0).trans rfl; have hcz16_1 : w14.cell? ⟨gb383, 1, none⟩ = some (.string a0_1) := (blk_cell BK383.out 1).trans rfl; have hcz16_2 : w14.cell? ⟨gb383, 2, none⟩ = some (.string a0_2) := (blk_cell BK383.out 2).trans rfl; have hcz16_3 : w14.cell? ⟨gb383, 3, none⟩ = some (.string a0_3) := (blk_cell BK383.out 3).trans rfl; have hcz16_4 : w14.cell? ⟨gb383, 4, none⟩ = some (.slice A0_4 l0_4.length c0_4) := (blk_cell BK383.out 4).trans rfl; have hfz16_0 := blk_frozen BK383.out 0; have hfz16_1 := blk_frozen BK383.out 1; have hfz16_2 := blk_frozen BK383.out 2; have hfz16_3 := blk_frozen BK383.out 3; have hfz16_4 := blk_frozen BK383.out 4; have hcz17_0 : w14.cell? ⟨gb384, 0, none⟩ = some (.int .i64 a1_0) := (blk_cell BK384.out 0).trans rfl; have hcz17_1 : w14.cell? ⟨gb384, 1, none⟩ = some (.string a1_1) := (blk_cell BK384.out 1).trans rfl; have hcz17_2 : w14.cell? ⟨gb384, 2, none⟩ = some (.string a1_2) := (blk_cell BK384.out 2).trans rfl; have hcz17_3 : w14.cell? ⟨gb384, 3, none⟩ = some (.string a1_3) := (blk_cell BK384.out 3).trans rfl; have hcz17_4 : w14.cell? ⟨gb384, 4, none⟩ = some (.slice A1_4 l1_4.length c1_4) := (blk_cell BK384.out 4).trans rfl; have hfz17_0 := blk_frozen BK384.out 0; have hfz17_1 := blk_frozen BK384.out 1; have hfz17_2 := blk_frozen BK384.out 2; have hfz17_3 := blk_frozen BK384.out 3; have hfz17_4 := blk_frozen BK384.out 4))
          go_ret
          exact ⟨by first | rfl | (simp [errW_none, errW_some] <;> rfl) | (simp [*, errW_none, errW_some] <;> rfl), by repeat (first | (with_reducible first | exact HB.out | apply below_alloc | apply pw_below_drewN | apply below_drew1 | refine below_set ?_ GE383.out | refine below_set ?_ GE384.out) | exact HB.out)⟩
      · rw [if_neg c5] at H
        have c5b0 : (a0_2.toList == a1_2.toList) = false := beq_eq_false_iff_ne.mpr c5
        have c5b1 : (a0_2.toList != a1_2.toList) = true := bne_iff_ne.mpr c5
        obtain rfl := Option.some.inj H
        go_enter Try.func46, Try.ntmps46
        go_wp2_with (first | ((with_reducible refine gate_dst (N := 2) rfl ?_); refine box_event ?hg (N := 2) ?hd (cs := #[.int .i64 a0_0, .string a0_1, .string a0_2, .string a0_3, .slice A0_4 l0_4.length c0_4]) (t := 25) ?hr ?_; (case hd => rfl); (case hg => rfl); (case hr => first | (go_simp; done) | (go_simp; rfl)); intro gb383 hg w18 hbox hb; have n0_ := Aside0.mk (below_step (by repeat (first | (with_reducible first | exact HB.out | apply below_alloc | apply pw_below_drewN | apply below_drew1) | exact HB.out)) hb); have n1_ := Aside0.mk (hbox); have n2_ := Aside0.mk ((by rw [hg]; exact (below_size (by repeat (first | (with_reducible first | exact HB.out | apply below_alloc | apply pw_below_drewN | apply below_drew1) | exact HB.out))) : w.heap.size ≤ gb383)); have n3_ := Aside0.mk ((by rw [hg]; exact (below_size (by repeat (first | (with_reducible first | exact HB.out | apply below_alloc | apply pw_below_drewN | apply below_drew1) | exact HB.out))) : w.heap.size ≤ gb383)); clear HB; have HB := n0_; have BK383 := n1_; have GW383 := n2_; have GE383 := n3_; clear n0_ n1_ n2_ n3_; clear hb hbox hg) | ((with_reducible refine gate_dst (N := 3) rfl ?_); refine box_event ?hg (N := 3) ?hd (cs := #[.int .i64 a1_0, .string a1_1, .string a1_2, .string a1_3, .slice A1_4 l1_4.length c1_4]) (t := 25) ?hr ?_; (case hd => rfl); (case hg => rfl); (case hr => first | (go_simp; done) | (go_simp; rfl)); intro gb384 hg w19 hbox hb; have n0_ := Aside0.mk (blk_below (g := gb383) (o := .cells #[.int .i64 a0_0, .string a0_1, .string a0_2, .string a0_3, .slice A0_4 l0_4.length c0_4] 25 (0, 0)) (by (with_reducible repeat (first | refine blk_drewN ?_ _ | refine blk_drew ?_ | refine blk_alloc ?_ _)); exact BK383.out) hb); have n1_ := Aside0.mk (below_step (by repeat (first | (with_reducible first | exact HB.out | apply below_alloc | apply pw_below_drewN | apply below_drew1 | refine below_set ?_ GE383.out) | exact HB.out)) hb); have n2_ := Aside0.mk (hbox); have n3_ := Aside0.mk ((by rw [hg]; exact (below_size (by repeat (first | (with_reducible first | exact HB.out | apply below_alloc | apply pw_below_drewN | apply below_drew1 | refine below_set ?_ GE383.out) | exact HB.out))) : w.heap.size ≤ gb384)); have n4_ := Aside0.mk ((by rw [hg]; exact (below_size (by repeat (first | (with_reducible first | exact HB.out | apply below_alloc | apply pw_below_drewN | apply below_drew1 | refine below_set ?_ GE383.out) | exact HB.out))) : w.heap.size ≤ gb384)); have n5_ := Aside0.mk ((by rw [hg]; exact Nat.ne_of_lt (blk_lt (g := gb383) (o := .cells #[.int .i64 a0_0, .string a0_1, .string a0_2, .string a0_3, .slice A0_4 l0_4.length c0_4] 25 (0, 0)) (by (with_reducible repeat (first | refine blk_drewN ?_ _ | refine blk_drew ?_ | refine blk_alloc ?_ _)); exact BK383.out)) : gb383 ≠ gb384)); have n6_ := Aside0.mk ((by rw [hg]; exact Nat.ne_of_gt (blk_lt (g := gb383) (o := .cells #[.int .i64 a0_0, .string a0_1, .string a0_2, .string a0_3, .slice A0_4 l0_4.length c0_4] 25 (0, 0)) (by (with_reducible repeat (first | refine blk_drewN ?_ _ | refine blk_drew ?_ | refine blk_alloc ?_ _)); exact BK383.out)) : gb384 ≠ gb383)); clear BK383; clear HB; have BK383 := n0_; have HB := n1_; have BK384 := n2_; have GW384 := n3_; have GE384 := n4_; have NB383_384 := n5_; have NB384_383 := n6_; clear n0_ n1_ n2_ n3_ n4_ n5_ n6_; clear hb hbox hg; have hnb20 := NB383_384.out; have hnc20 := NB384_383.out; have hcz21_0 : w19.cell? ⟨gb383, 0, none⟩ = some (.int .i64 a0_0) := (blk_cell BK383.out 0).trans rfl; have hcz21_1 : w19.cell? ⟨gb383, 1, none⟩ = some (.string a0_1) := (blk_cell BK383.out 1).trans rfl; have hcz21_2 : w19.cell? ⟨gb383, 2, none⟩ = some (.string a0_2) := (blk_cell BK383.out 2).trans rfl; have hcz21_3 : w19.cell? ⟨gb383, 3, none⟩ = some (.string a0_3) := (blk_cell BK383.out 3).trans rfl; have hcz21_4 : w19.cell? ⟨gb383, 4, none⟩ = some (.slice A0_4 l0_4.length c0_4) := (blk_cell BK383.out 4).trans rfl; have hfz21_0 := blk_frozen BK383.out 0; have hfz21_1 := blk_frozen BK383.out 1; have hfz21_2 := blk_frozen BK383.out 2; have hfz21_3 := blk_frozen BK383.out 3; have hfz21_4 := blk_frozen BK383.out 4; have hcz22_0 : w19.cell? ⟨gb384, 0, none⟩ = some (.int .i64 a1_0) := (blk_cell BK384.out 0).trans rfl; have hcz22_1 : w19.cell? ⟨gb384, 1, none⟩ = some (.string a1_1) := (blk_cell BK384.out 1).trans rfl; have hcz22_2 : w19.cell? ⟨gb384, 2, none⟩ = some (.string a1_2) := (blk_cell BK384.out 2).trans rfl; have hcz22_3 : w19.cell? ⟨gb384, 3, none⟩ = some (.string a1_3) := (blk_cell BK384.out 3).trans rfl; have hcz22_4 : w19.cell? ⟨gb384, 4, none⟩ = some (.slice A1_4 l1_4.length c1_4) := (blk_cell BK384.out 4).trans rfl; have hfz22_0 := blk_frozen BK384.out 0; have hfz22_1 := blk_frozen BK384.out 1; have hfz22_2 := blk_frozen BK384.out 2; have hfz22_3 := blk_frozen BK384.out 3; have hfz22_4 := blk_frozen BK384.out 4))
        go_ret
        exact ⟨by first | rfl | (simp [errW_none, errW_some] <;> rfl) | (simp [*, errW_none, errW_some] <;> rfl), by repeat (first | (with_reducible first | exact HB.out | apply below_alloc | apply pw_below_drewN | apply below_drew1 | refine below_set ?_ GE383.out | refine below_set ?_ GE384.out) | exact HB.out)⟩
    · rw [if_neg c4] at H
      have c4b0 : (a0_1.toList == a1_1.toList) = false := beq_eq_false_iff_ne.mpr c4
      have c4b1 : (a0_1.toList != a1_1.toList) = true := bne_iff_ne.mpr c4
      obtain rfl := Option.some.inj H
      go_enter Try.func46, Try.ntmps46
      go_wp2_with (first | ((with_reducible refine gate_dst (N := 2) rfl ?_); refine box_event ?hg (N := 2) ?hd (cs := #[.int .i64 a0_0, .string a0_1, .string a0_2, .string a0_3, .slice A0_4 l0_4.length c0_4]) (t := 25) ?hr ?_; (case hd => rfl); (case hg => rfl); (case hr => first | (go_simp; done) | (go_simp; rfl)); intro gb383 hg w23 hbox hb; have n0_ := Aside0.mk (below_step (by repeat (first | (with_reducible first | exact HB.out | apply below_alloc | apply pw_below_drewN | apply below_drew1) | exact HB.out)) hb); have n1_ := Aside0.mk (hbox); have n2_ := Aside0.mk ((by rw [hg]; exact (below_size (by repeat (first | (with_reducible first | exact HB.out | apply below_alloc | apply pw_below_drewN | apply below_drew1) | exact HB.out))) : w.heap.size ≤ gb383)); have n3_ := Aside0.mk ((by rw [hg]; exact (below_size (by repeat (first | (with_reducible first | exact HB.out | apply below_alloc | apply pw_below_drewN | apply below_drew1) | exact HB.out))) : w.heap.size ≤ gb383)); clear HB; have HB := n0_; have BK383 := n1_; have GW383 := n2_; have GE383 := n3_; clear n0_ n1_ n2_ n3_; clear hb hbox hg) | ((with_reducible refine gate_dst (N := 3) rfl ?_); refine box_event ?hg (N := 3) ?hd (cs := #[.int .i64 a1_0, .string a1_1, .string a1_2, .string a1_3, .slice A1_4 l1_4.length c1_4]) (t := 25) ?hr ?_; (case hd => rfl); (case hg => rfl); (case hr => first | (go_simp; done) | (go_simp; rfl)); intro gb384 hg w24 hbox hb; have n0_ := Aside0.mk (blk_below (g := gb383) (o := .cells #[.int .i64 a0_0, .string a0_1, .string a0_2, .string a0_3, .slice A0_4 l0_4.length c0_4] 25 (0, 0)) (by (with_reducible repeat (first | refine blk_drewN ?_ _ | refine blk_drew ?_ | refine blk_alloc ?_ _)); exact BK383.out) hb); have n1_ := Aside0.mk (below_step (by repeat (first | (with_reducible first | exact HB.out | apply below_alloc | apply pw_below_drewN | apply below_drew1 | refine below_set ?_ GE383.out) | exact HB.out)) hb); have n2_ := Aside0.mk (hbox); have n3_ := Aside0.mk ((by rw [hg]; exact (below_size (by repeat (first | (with_reducible first | exact HB.out | apply below_alloc | apply pw_below_drewN | apply below_drew1 | refine below_set ?_ GE383.out) | exact HB.out))) : w.heap.size ≤ gb384)); have n4_ := Aside0.mk ((by rw [hg]; exact (below_size (by repeat (first | (with_reducible first | exact HB.out | apply below_alloc | apply pw_below_drewN | apply below_drew1 | refine below_set ?_ GE383.out) | exact HB.out))) : w.heap.size ≤ gb384)); have n5_ := Aside0.mk ((by rw [hg]; exact Nat.ne_of_lt (blk_lt (g := gb383) (o := .cells #[.int .i64 a0_0, .string a0_1, .string a0_2, .string a0_3, .slice A0_4 l0_4.length c0_4] 25 (0, 0)) (by (with_reducible repeat (first | refine blk_drewN ?_ _ | refine blk_drew ?_ | refine blk_alloc ?_ _)); exact BK383.out)) : gb383 ≠ gb384)); have n6_ := Aside0.mk ((by rw [hg]; exact Nat.ne_of_gt (blk_lt (g := gb383) (o := .cells #[.int .i64 a0_0, .string a0_1, .string a0_2, .string a0_3, .slice A0_4 l0_4.length c0_4] 25 (0, 0)) (by (with_reducible repeat (first | refine blk_drewN ?_ _ | refine blk_drew ?_ | refine blk_alloc ?_ _)); exact BK383.out)) : gb384 ≠ gb383)); clear BK383; clear HB; have BK383 := n0_; have HB := n1_; have BK384 := n2_; have GW384 := n3_; have GE384 := n4_; have NB383_384 := n5_; have NB384_383 := n6_; clear n0_ n1_ n2_ n3_ n4_ n5_ n6_; clear hb hbox hg; have hnb25 := NB383_384.out; have hnc25 := NB384_383.out; have hcz26_0 : w24.cell? ⟨gb383, 0, none⟩ = some (.int .i64 a0_0) := (blk_cell BK383.out 0).trans rfl; have hcz26_1 : w24.cell? ⟨gb383, 1, none⟩ = some (.string a0_1) := (blk_cell BK383.out 1).trans rfl; have hcz26_2 : w24.cell? ⟨gb383, 2, none⟩ = some (.string a0_2) := (blk_cell BK383.out 2).trans rfl; have hcz26_3 : w24.cell? ⟨gb383, 3, none⟩ = some (.string a0_3) := (blk_cell BK383.out 3).trans rfl; have hcz26_4 : w24.cell? ⟨gb383, 4, none⟩ = some (.slice A0_4 l0_4.length c0_4) := (blk_cell BK383.out 4).trans rfl; have hfz26_0 := blk_frozen BK383.out 0; have hfz26_1 := blk_frozen BK383.out 1; have hfz26_2 := blk_frozen BK383.out 2; have hfz26_3 := blk_frozen BK383.out 3; have hfz26_4 := blk_frozen BK383.out 4; have hcz27_0 : w24.cell? ⟨gb384, 0, none⟩ = some (.int .i64 a1_0) := (blk_cell BK384.out 0).trans rfl; have hcz27_1 : w24.cell? ⟨gb384, 1, none⟩ = some (.string a1_1) := (blk_cell BK384.out 1).trans rfl; have hcz27_2 : w24.cell? ⟨gb384, 2, none⟩ = some (.string a1_2) := (blk_cell BK384.out 2).trans rfl; have hcz27_3 : w24.cell? ⟨gb384, 3, none⟩ = some (.string a1_3) := (blk_cell BK384.out 3).trans rfl; have hcz27_4 : w24.cell? ⟨gb384, 4, none⟩ = some (.slice A1_4 l1_4.length c1_4) := (blk_cell BK384.out 4).trans rfl; have hfz27_0 := blk_frozen BK384.out 0; have hfz27_1 := blk_frozen BK384.out 1; have hfz27_2 := blk_frozen BK384.out 2; have hfz27_3 := blk_frozen BK384.out 3; have hfz27_4 := blk_frozen BK384.out 4))
      go_ret
      exact ⟨by first | rfl | (simp [errW_none, errW_some] <;> rfl) | (simp [*, errW_none, errW_some] <;> rfl), by repeat (first | (with_reducible first | exact HB.out | apply below_alloc | apply pw_below_drewN | apply below_drew1 | refine below_set ?_ GE383.out | refine below_set ?_ GE384.out) | exact HB.out)⟩
  · rw [if_neg c3] at H
    have c3b0 : (a0_0 == a1_0) = false := beq_eq_false_iff_ne.mpr c3
    have c3b1 : (a0_0 != a1_0) = true := bne_iff_ne.mpr c3
    obtain rfl := Option.some.inj H
    go_enter Try.func46, Try.ntmps46
    go_wp2_with (first | ((with_reducible refine gate_dst (N := 2) rfl ?_); refine box_event ?hg (N := 2) ?hd (cs := #[.int .i64 a0_0, .string a0_1, .string a0_2, .string a0_3, .slice A0_4 l0_4.length c0_4]) (t := 25) ?hr ?_; (case hd => rfl); (case hg => rfl); (case hr => first | (go_simp; done) | (go_simp; rfl)); intro gb383 hg w28 hbox hb; have n0_ := Aside0.mk (below_step (by repeat (first | (with_reducible first | exact HB.out | apply below_alloc | apply pw_below_drewN | apply below_drew1) | exact HB.out)) hb); have n1_ := Aside0.mk (hbox); have n2_ := Aside0.mk ((by rw [hg]; exact (below_size (by repeat (first | (with_reducible first | exact HB.out | apply below_alloc | apply pw_below_drewN | apply below_drew1) | exact HB.out))) : w.heap.size ≤ gb383)); have n3_ := Aside0.mk ((by rw [hg]; exact (below_size (by repeat (first | (with_reducible first | exact HB.out | apply below_alloc | apply pw_below_drewN | apply below_drew1) | exact HB.out))) : w.heap.size ≤ gb383)); clear HB; have HB := n0_; have BK383 := n1_; have GW383 := n2_; have GE383 := n3_; clear n0_ n1_ n2_ n3_; clear hb hbox hg) | ((with_reducible refine gate_dst (N := 3) rfl ?_); refine box_event ?hg (N := 3) ?hd (cs := #[.int .i64 a1_0, .string a1_1, .string a1_2, .string a1_3, .slice A1_4 l1_4.length c1_4]) (t := 25) ?hr ?_; (case hd => rfl); (case hg => rfl); (case hr => first | (go_simp; done) | (go_simp; rfl)); intro gb384 hg w29 hbox hb; have n0_ := Aside0.mk (blk_below (g := gb383) (o := .cells #[.int .i64 a0_0, .string a0_1, .string a0_2, .string a0_3, .slice A0_4 l0_4.length c0_4] 25 (0, 0)) (by (with_reducible repeat (first | refine blk_drewN ?_ _ | refine blk_drew ?_ | refine blk_alloc ?_ _)); exact BK383.out) hb); have n1_ := Aside0.mk (below_step (by repeat (first | (with_reducible first | exact HB.out | apply below_alloc | apply pw_below_drewN | apply below_drew1 | refine below_set ?_ GE383.out) | exact HB.out)) hb); have n2_ := Aside0.mk (hbox); have n3_ := Aside0.mk ((by rw [hg]; exact (below_size (by repeat (first | (with_reducible first | exact HB.out | apply below_alloc | apply pw_below_drewN | apply below_drew1 | refine below_set ?_ GE383.out) | exact HB.out))) : w.heap.size ≤ gb384)); have n4_ := Aside0.mk ((by rw [hg]; exact (below_size (by repeat (first | (with_reducible first | exact HB.out | apply below_alloc | apply pw_below_drewN | apply below_drew1 | refine below_set ?_ GE383.out) | exact HB.out))) : w.heap.size ≤ gb384)); have n5_ := Aside0.mk ((by rw [hg]; exact Nat.ne_of_lt (blk_lt (g := gb383) (o := .cells #[.int .i64 a0_0, .string a0_1, .string a0_2, .string a0_3, .slice A0_4 l0_4.length c0_4] 25 (0, 0)) (by (with_reducible repeat (first | refine blk_drewN ?_ _ | refine blk_drew ?_ | refine blk_alloc ?_ _)); exact BK383.out)) : gb383 ≠ gb384)); have n6_ := Aside0.mk ((by rw [hg]; exact Nat.ne_of_gt (blk_lt (g := gb383) (o := .cells #[.int .i64 a0_0, .string a0_1, .string a0_2, .string a0_3, .slice A0_4 l0_4.length c0_4] 25 (0, 0)) (by (with_reducible repeat (first | refine blk_drewN ?_ _ | refine blk_drew ?_ | refine blk_alloc ?_ _)); exact BK383.out)) : gb384 ≠ gb383)); clear BK383; clear HB; have BK383 := n0_; have HB := n1_; have BK384 := n2_; have GW384 := n3_; have GE384 := n4_; have NB383_384 := n5_; have NB384_383 := n6_; clear n0_ n1_ n2_ n3_ n4_ n5_ n6_; clear hb hbox hg; have hnb30 := NB383_384.out; have hnc30 := NB384_383.out; have hcz31_0 : w29.cell? ⟨gb383, 0, none⟩ = some (.int .i64 a0_0) := (blk_cell BK383.out 0).trans rfl; have hcz31_1 : w29.cell? ⟨gb383, 1, none⟩ = some (.string a0_1) := (blk_cell BK383.out 1).trans rfl; have hcz31_2 : w29.cell? ⟨gb383, 2, none⟩ = some (.string a0_2) := (blk_cell BK383.out 2).trans rfl; have hcz31_3 : w29.cell? ⟨gb383, 3, none⟩ = some (.string a0_3) := (blk_cell BK383.out 3).trans rfl; have hcz31_4 : w29.cell? ⟨gb383, 4, none⟩ = some (.slice A0_4 l0_4.length c0_4) := (blk_cell BK383.out 4).trans rfl; have hfz31_0 := blk_frozen BK383.out 0; have hfz31_1 := blk_frozen BK383.out 1; have hfz31_2 := blk_frozen BK383.out 2; have hfz31_3 := blk_frozen BK383.out 3; have hfz31_4 := blk_frozen BK383.out 4; have hcz32_0 : w29.cell? ⟨gb384, 0, none⟩ = some (.int .i64 a1_0) := (blk_cell BK384.out 0).trans rfl; have hcz32_1 : w29.cell? ⟨gb384, 1, none⟩ = some (.string a1_1) := (blk_cell BK384.out 1).trans rfl; have hcz32_2 : w29.cell? ⟨gb384, 2, none⟩ = some (.string a1_2) := (blk_cell BK384.out 2).trans rfl; have hcz32_3 : w29.cell? ⟨gb384, 3, none⟩ = some (.string a1_3) := (blk_cell BK384.out 3).trans rfl; have hcz32_4 : w29.cell? ⟨gb384, 4, none⟩ = some (.slice A1_4 l1_4.length c1_4) := (blk_cell BK384.out 4).trans rfl; have hfz32_0 := blk_frozen BK384.out 0; have hfz32_1 := blk_frozen BK384.out 1; have hfz32_2 := blk_frozen BK384.out 2; have hfz32_3 := blk_frozen BK384.out 3; have hfz32_4 := blk_frozen BK384.out 4))
    go_ret
    exact ⟨by first | rfl | (simp [errW_none, errW_some] <;> rfl) | (simp [*, errW_none, errW_some] <;> rfl), by repeat (first | (with_reducible first | exact HB.out | apply below_alloc | apply pw_below_drewN | apply below_drew1 | refine below_set ?_ GE383.out | refine below_set ?_ GE384.out) | exact HB.out)⟩
def api_Node_45.l0 : Nat → List (S25) → List (S25) → Int → Int → Option (Bool)
  | 0, _, _, _, _ => none
  | k + 1, x1, x15, x16, x17 => if x17 < x16 then (if 0 ≤ x17 then (if x17 < (x15.length : Int) then (if x17 < (x1.length : Int) then ((tree_Same_1.f k ((rd_T25 x15 x17).f0) ((rd_T25 x15 x17).f1) ((rd_T25 x15 x17).f2) ((rd_T25 x15 x17).f3) ((rd_T25 x15 x17).f4) ((rd_T25 x1 x17).f0) ((rd_T25 x1 x17).f1) ((rd_T25 x1 x17).f2) ((rd_T25 x1 x17).f3) ((rd_T25 x1 x17).f4)).bind fun t390 => (if t390 = true then (api_Node_45.l0 k x1 x15 x16 (wrap64 (x17 + 1))) else (some false))) else (none)) else (none)) else (none)) else (some true)
def api_Node_45.f (k : Nat) (l0 : List (S25)) (l1 : List (S25))  : Option (Bool) := if (l0.length : Int) = (l1.length : Int) then (api_Node_45.l0 k l1 l0 (l0.length : Int) 0) else (some false)
theorem api_Node_45.mono_l : ∀ k, (∀ y0 y1 y2 y3, LeO (api_Node_45.l0 k y0 y1 y2 y3) (api_Node_45.l0 (k + 1) y0 y1 y2 y3))
  | 0 => fun _ _ _ _ r h => by simp [api_Node_45.l0] at h
  | k + 1 => by
    have ih0 := api_Node_45.mono_l k
    · intro y0 y1 y2 y3
      unfold api_Node_45.l0
      repeat' first
      | (with_reducible exact ih0 _ _ _ _)
      | (with_reducible exact tree_Same_1.mono _ _ _ _ _ _ _ _ _ _ _)
      | (with_reducible exact LeO.refl _)
      | (with_reducible exact LeO.none _)
      | (with_reducible refine LeO.ite ?_ ?_)
      | (with_reducible refine LeO.bind ?_ (fun _ => ?_))
      | exact ih0 _ _ _ _
      | exact tree_Same_1.mono _ _ _ _ _ _ _ _ _ _ _
      | exact LeO.none _
      | refine LeO.ite ?_ ?_
      | refine LeO.bind ?_ (fun _ => ?_)
theorem api_Node_45.mono : ∀ a0 a1 k, LeO (api_Node_45.f k a0 a1) (api_Node_45.f (k + 1) a0 a1) := by
  intro a0 a1 k
  have ih0 := api_Node_45.mono_l k
  unfold api_Node_45.f
  repeat' first
      | (with_reducible exact ih0 _ _ _ _)
      | (with_reducible exact tree_Same_1.mono _ _ _ _ _ _ _ _ _ _ _)
      | (with_reducible exact LeO.refl _)
      | (with_reducible exact LeO.none _)
      | (with_reducible refine LeO.ite ?_ ?_)
      | (with_reducible refine LeO.bind ?_ (fun _ => ?_))
      | exact ih0 _ _ _ _
      | exact tree_Same_1.mono _ _ _ _ _ _ _ _ _ _ _
      | exact LeO.none _
      | refine LeO.ite ?_ ?_
      | refine LeO.bind ?_ (fun _ => ?_)
set_option maxHeartbeats 8000000 in
set_option maxRecDepth 100000 in
theorem api_Node_45.calls (k : Nat) (A0 : Option Addr) (c0 : Nat) (l0 : List (S25)) (A1 : Option Addr) (c1 : Nat) (l1 : List (S25))  (r : Bool) (w : World) (hr0 : Kd.C k25 w A0 l0.length l0) (hc0 : l0.length ≤ c0) (hr1 : Kd.C k25 w A1 l1.length l1) (hc1 : l1.length ≤ c1) (h : api_Node_45.f k l0 l1 = some r) :
    Calls Try.prog 45 #[.slice A0 l0.length c0, .slice A1 l1.length c1, .func (.func 46) #[] #[]] w fun e w' => e = .returned (.bool r) ∧ Below w.heap.size w w' := by
  have hu25 := Try.underlying25
  have HR0 := Aside0.mk hr0
  have HC0 := Aside0.mk hc0
  clear hr0 hc0
  have HR1 := Aside0.mk hr1
  have HC1 := Aside0.mk hc1
  clear hr1 hc1
  have HB := Aside0.mk (Below.refl w.heap.size w)
  have H : (if (l0.length : Int) = (l1.length : Int) then (api_Node_45.l0 k l1 l0 (l0.length : Int) 0) else (some false)) = some r := h
  clear h
  by_cases c4 : (l0.length : Int) = (l1.length : Int)
  · rw [if_pos c4] at H
    have c4b0 : ((l0.length : Int) == (l1.length : Int)) = true := beq_iff_eq.mpr c4
    have c4b1 : ((l0.length : Int) != (l1.length : Int)) = false := bne_eq_false_iff_eq.mpr c4
    have c4b2 : (l0.length == l1.length) = true := by first | simpa using c4 | (simp at c4 ⊢; omega)
    clear c4
    have H' := Aside0.mk H
    clear H
    go_enter Try.func45, Try.ntmps45
    go_wp2
    go_loopg [17] k (fun kq v17 w' => ∃ (x17_1 : Int), v17 = .int .i64 x17_1 ∧ Aside0 (api_Node_45.l0 kq l1 l0 (l0.length : Int) x17_1 = some r) ∧ Aside0 (kq ≤ k) ∧ Aside0 (Below w.heap.size w w'))
    case atStart => exact ⟨(0), (by first | rfl | (simp; done) | (simp [*]; done)), H', ⟨Nat.le_refl _⟩, ⟨by repeat (first | (with_reducible first | exact HB.out | apply below_alloc | apply pw_below_drewN | apply below_drew1) | exact HB.out)⟩⟩
    case round =>
      clear H'
      try clear c1
      try clear p2
      try clear c4
      try clear c4b0
      try clear c4b1
      try clear c4b2
      obtain ⟨x17_1, rfl, HA, HK1, HB⟩ := hrel
      cases gk with
      | zero => exact absurd HA.out (by simp [api_Node_45.l0])
      | succ k1 =>
        have H := HA.out
        clear HA
        simp only [api_Node_45.l0] at H
        by_cases c5 : x17_1 < (l0.length : Int)
        · rw [if_pos c5] at H
          have c5b0 : decide (x17_1 < (l0.length : Int)) = true := decide_eq_true c5
          clear c5
          by_cases c6 : 0 ≤ x17_1
          · rw [if_pos c6] at H
            have c6b0 : decide (0 ≤ x17_1) = true := decide_eq_true c6
            clear c6
            by_cases c7 : x17_1 < (l0.length : Int)
            · rw [if_pos c7] at H
              have c7b0 : decide (x17_1 < (l0.length : Int)) = true := decide_eq_true c7
              clear c7
              by_cases c8 : x17_1 < (l1.length : Int)
              · rw [if_pos c8] at H
                have c8b0 : decide (x17_1 < (l1.length : Int)) = true := decide_eq_true c8
                clear c8
                replace H := Option.bind_eq_some_iff.mp H
                obtain ⟨t390, A90, H⟩ := H
                replace H : (if t390 = true then (api_Node_45.l0 k1 l1 l0 (l0.length : Int) (wrap64 (x17_1 + 1))) else (some false)) = some r := H
                have A9 := Aside0.mk A90
                clear A90
                by_cases c10 : t390 = true
                · subst c10
                  have H1 : (api_Node_45.l0 k1 l1 l0 (l0.length : Int) (wrap64 (x17_1 + 1))) = some r := by rw [if_pos rfl] at H; exact H
                  clear H
                  have H := H1
                  clear H1
                  have H' := Aside0.mk H
                  clear H
                  have p386 : 0 ≤ (x17_1 : Int) := of_decide_eq_true (by first | (with_reducible assumption) | assumption)
                  have q386 : x17_1 < (l0.length : Int) := of_decide_eq_true (by first | (with_reducible assumption) | assumption)
                  obtain ⟨ad386, A386_4, c386_4, e386, hx386_0, hx386_1, hx386_2, hx386_3, hx386_4, hl386_4, hi386_4⟩ := at_T25 HR0.out x17_1 p386 q386
                  cases e386
                  replace hx386_0 := (HB.out.cell (World.block_lt_of_cell? w _ hx386_0)).trans hx386_0
                  replace hx386_1 := (HB.out.cell (World.block_lt_of_cell? w _ hx386_1)).trans hx386_1
                  replace hx386_2 := (HB.out.cell (World.block_lt_of_cell? w _ hx386_2)).trans hx386_2
                  replace hx386_3 := (HB.out.cell (World.block_lt_of_cell? w _ hx386_3)).trans hx386_3
                  replace hx386_4 := (HB.out.cell (World.block_lt_of_cell? w _ hx386_4)).trans hx386_4
                  have HR386_4 := Aside0.mk hi386_4
                  have HC386_4 := Aside0.mk hl386_4
                  clear hi386_4 hl386_4
                  replace p386 := eq_true p386
                  replace q386 := eq_true q386
                  go_wp2_with (first | ((with_reducible refine gate_dst (N := 8) rfl ?_); refine box_event ?hg (N := 8) ?hd (cs := #[.int .i64 0, .string (⟨#[]⟩ : ByteArray), .string (⟨#[]⟩ : ByteArray), .string (⟨#[]⟩ : ByteArray), .slice none 0 0]) (t := 25) ?hr ?_; (case hd => rfl); (case hg => rfl); (case hr => first | (go_simp; done) | (go_simp; rfl)); intro gb387 hg w11 hbox hb; have n0_ := Aside0.mk (below_step (by repeat (first | (with_reducible first | exact HB.out | apply below_alloc | apply pw_below_drewN | apply below_drew1) | exact HB.out)) hb); have n1_ := Aside0.mk (hbox); have n2_ := Aside0.mk ((by rw [hg]; exact (below_size (by repeat (first | (with_reducible first | exact HB.out | apply below_alloc | apply pw_below_drewN | apply below_drew1) | exact HB.out))) : w.heap.size ≤ gb387)); have n3_ := Aside0.mk ((by rw [hg]; exact (below_size (by repeat (first | (with_reducible first | exact HB.out | apply below_alloc | apply pw_below_drewN | apply below_drew1) | exact HB.out))) : w.heap.size ≤ gb387)); clear HB; have HB := n0_; have BK387 := n1_; have GW387 := n2_; have GE387 := n3_; clear n0_ n1_ n2_ n3_; clear hb hbox hg; have hcz12_0 : w11.cell? ⟨gb387, 0, none⟩ = some (.int .i64 0) := (blk_cell BK387.out 0).trans rfl; have hcz12_1 : w11.cell? ⟨gb387, 1, none⟩ = some (.string (⟨#[]⟩ : ByteArray)) := (blk_cell BK387.out 1).trans rfl; have hcz12_2 : w11.cell? ⟨gb387, 2, none⟩ = some (.string (⟨#[]⟩ : ByteArray)) := (blk_cell BK387.out 2).trans rfl; have hcz12_3 : w11.cell? ⟨gb387, 3, none⟩ = some (.string (⟨#[]⟩ : ByteArray)) := (blk_cell BK387.out 3).trans rfl; have hcz12_4 : w11.cell? ⟨gb387, 4, none⟩ = some (.slice none 0 0) := (blk_cell BK387.out 4).trans rfl; have hfz12_0 := blk_frozen BK387.out 0; have hfz12_1 := blk_frozen BK387.out 1; have hfz12_2 := blk_frozen BK387.out 2; have hfz12_3 := blk_frozen BK387.out 3; have hfz12_4 := blk_frozen BK387.out 4; have p388 : 0 ≤ (x17_1 : Int) := of_decide_eq_true (by first | (with_reducible assumption) | assumption); have q388 : x17_1 < (l1.length : Int) := of_decide_eq_true (by first | (with_reducible assumption) | assumption); obtain ⟨ad388, A388_4, c388_4, e388, hx388_0, hx388_1, hx388_2, hx388_3, hx388_4, hl388_4, hi388_4⟩ := at_T25 HR1.out x17_1 p388 q388; cases e388; have hn388_0 : ad388.block ≠ gb387 := Nat.ne_of_lt (Nat.lt_of_lt_of_le (by have := World.block_lt_of_cell? _ _ hx388_0; first | rwa [add_block] at this | exact this) GW387.out); have hn388_1 : ad388.block ≠ gb387 := Nat.ne_of_lt (Nat.lt_of_lt_of_le (by have := World.block_lt_of_cell? _ _ hx388_0; first | rwa [add_block] at this | exact this) GW387.out); have hn388_2 : ad388.block ≠ gb387 := Nat.ne_of_lt (Nat.lt_of_lt_of_le (by have := World.block_lt_of_cell? _ _ hx388_0; first | rwa [add_block] at this | exact this) GW387.out); have hn388_3 : ad388.block ≠ gb387 := Nat.ne_of_lt (Nat.lt_of_lt_of_le (by have := World.block_lt_of_cell? _ _ hx388_0; first | rwa [add_block] at this | exact this) GW387.out); have hn388_4 : ad388.block ≠ gb387 := Nat.ne_of_lt (Nat.lt_of_lt_of_le (by have := World.block_lt_of_cell? _ _ hx388_0; first | rwa [add_block] at this | exact this) GW387.out); replace hx388_0 := (HB.out.cell (World.block_lt_of_cell? w _ hx388_0)).trans hx388_0; replace hx388_1 := (HB.out.cell (World.block_lt_of_cell? w _ hx388_1)).trans hx388_1; replace hx388_2 := (HB.out.cell (World.block_lt_of_cell? w _ hx388_2)).trans hx388_2; replace hx388_3 := (HB.out.cell (World.block_lt_of_cell? w _ hx388_3)).trans hx388_3; replace hx388_4 := (HB.out.cell (World.block_lt_of_cell? w _ hx388_4)).trans hx388_4; have HR388_4 := Aside0.mk hi388_4; have HC388_4 := Aside0.mk hl388_4; clear hi388_4 hl388_4; replace hx388_0 := (cell_far (p := ⟨gb387, 0, none⟩) (by first | (rw [add_block]; exact hn388_0) | (show (Addr.add _ _).block ≠ _; rw [add_block]; exact hn388_0) | exact hn388_0) (.int .i64 ((rd_T25 l0 x17_1).f0))).trans hx388_0; replace hx388_1 := (cell_far (p := ⟨gb387, 0, none⟩) (by first | (rw [add_block]; exact hn388_0) | (show (Addr.add _ _).block ≠ _; rw [add_block]; exact hn388_0) | exact hn388_0) (.int .i64 ((rd_T25 l0 x17_1).f0))).trans hx388_1; replace hx388_2 := (cell_far (p := ⟨gb387, 0, none⟩) (by first | (rw [add_block]; exact hn388_0) | (show (Addr.add _ _).block ≠ _; rw [add_block]; exact hn388_0) | exact hn388_0) (.int .i64 ((rd_T25 l0 x17_1).f0))).trans hx388_2; replace hx388_3 := (cell_far (p := ⟨gb387, 0, none⟩) (by first | (rw [add_block]; exact hn388_0) | (show (Addr.add _ _).block ≠ _; rw [add_block]; exact hn388_0) | exact hn388_0) (.int .i64 ((rd_T25 l0 x17_1).f0))).trans hx388_3; replace hx388_4 := (cell_far (p := ⟨gb387, 0, none⟩) (by first | (rw [add_block]; exact hn388_0) | (show (Addr.add _ _).block ≠ _; rw [add_block]; exact hn388_0) | exact hn388_0) (.int .i64 ((rd_T25 l0 x17_1).f0))).trans hx388_4; replace hx388_0 := (cell_far (p := ⟨gb387, 1, none⟩) (by first | (rw [add_block]; exact hn388_1) | (show (Addr.add _ _).block ≠ _; rw [add_block]; exact hn388_1) | exact hn388_1) (.string ((rd_T25 l0 x17_1).f1))).trans hx388_0; replace hx388_1 := (cell_far (p := ⟨gb387, 1, none⟩) (by first | (rw [add_block]; exact hn388_1) | (show (Addr.add _ _).block ≠ _; rw [add_block]; exact hn388_1) | exact hn388_1) (.string ((rd_T25 l0 x17_1).f1))).trans hx388_1; replace hx388_2 := (cell_far (p := ⟨gb387, 1, none⟩) (by first | (rw [add_block]; exact hn388_1) | (show (Addr.add _ _).block ≠ _; rw [add_block]; exact hn388_1) | exact hn388_1) (.string ((rd_T25 l0 x17_1).f1))).trans hx388_2; replace hx388_3 := (cell_far (p := ⟨gb387, 1, none⟩) (by first | (rw [add_block]; exact hn388_1) | (show (Addr.add _ _).block ≠ _; rw [add_block]; exact hn388_1) | exact hn388_1) (.string ((rd_T25 l0 x17_1).f1))).trans hx388_3; replace hx388_4 := (cell_far (p := ⟨gb387, 1, none⟩) (by first | (rw [add_block]; exact hn388_1) | (show (Addr.add _ _).block ≠ _; rw [add_block]; exact hn388_1) | exact hn388_1) (.string ((rd_T25 l0 x17_1).f1))).trans hx388_4; replace hx388_0 := (cell_far (p := ⟨gb387, 2, none⟩) (by first | (rw [add_block]; exact hn388_2) | (show (Addr.add _ _).block ≠ _; rw [add_block]; exact hn388_2) | exact hn388_2) (.string ((rd_T25 l0 x17_1).f2))).trans hx388_0; replace hx388_1 := (cell_far (p := ⟨gb387, 2, none⟩) (by first | (rw [add_block]; exact hn388_2) | (show (Addr.add _ _).block ≠ _; rw [add_block]; exact hn388_2) | exact hn388_2) (.string ((rd_T25 l0 x17_1).f2))).trans hx388_1; replace hx388_2 := (cell_far (p := ⟨gb387, 2, none⟩) (by first | (rw [add_block]; exact hn388_2) | (show (Addr.add _ _).block ≠ _; rw [add_block]; exact hn388_2) | exact hn388_2) (.string ((rd_T25 l0 x17_1).f2))).trans hx388_2; replace hx388_3 := (cell_far (p := ⟨gb387, 2, none⟩) (by first | (rw [add_block]; exact hn388_2) | (show (Addr.add _ _).block ≠ _; rw [add_block]; exact hn388_2) | exact hn388_2) (.string ((rd_T25 l0 x17_1).f2))).trans hx388_3; replace hx388_4 := (cell_far (p := ⟨gb387, 2, none⟩) (by first | (rw [add_block]; exact hn388_2) | (show (Addr.add _ _).block ≠ _; rw [add_block]; exact hn388_2) | exact hn388_2) (.string ((rd_T25 l0 x17_1).f2))).trans hx388_4; replace hx388_0 := (cell_far (p := ⟨gb387, 3, none⟩) (by first | (rw [add_block]; exact hn388_3) | (show (Addr.add _ _).block ≠ _; rw [add_block]; exact hn388_3) | exact hn388_3) (.string ((rd_T25 l0 x17_1).f3))).trans hx388_0; replace hx388_1 := (cell_far (p := ⟨gb387, 3, none⟩) (by first | (rw [add_block]; exact hn388_3) | (show (Addr.add _ _).block ≠ _; rw [add_block]; exact hn388_3) | exact hn388_3) (.string ((rd_T25 l0 x17_1).f3))).trans hx388_1; replace hx388_2 := (cell_far (p := ⟨gb387, 3, none⟩) (by first | (rw [add_block]; exact hn388_3) | (show (Addr.add _ _).block ≠ _; rw [add_block]; exact hn388_3) | exact hn388_3) (.string ((rd_T25 l0 x17_1).f3))).trans hx388_2; replace hx388_3 := (cell_far (p := ⟨gb387, 3, none⟩) (by first | (rw [add_block]; exact hn388_3) | (show (Addr.add _ _).block ≠ _; rw [add_block]; exact hn388_3) | exact hn388_3) (.string ((rd_T25 l0 x17_1).f3))).trans hx388_3; replace hx388_4 := (cell_far (p := ⟨gb387, 3, none⟩) (by first | (rw [add_block]; exact hn388_3) | (show (Addr.add _ _).block ≠ _; rw [add_block]; exact hn388_3) | exact hn388_3) (.string ((rd_T25 l0 x17_1).f3))).trans hx388_4; replace hx388_0 := (cell_far (p := ⟨gb387, 4, none⟩) (by first | (rw [add_block]; exact hn388_4) | (show (Addr.add _ _).block ≠ _; rw [add_block]; exact hn388_4) | exact hn388_4) (.slice A386_4 ((rd_T25 l0 x17_1).f4).length c386_4)).trans hx388_0; replace hx388_1 := (cell_far (p := ⟨gb387, 4, none⟩) (by first | (rw [add_block]; exact hn388_4) | (show (Addr.add _ _).block ≠ _; rw [add_block]; exact hn388_4) | exact hn388_4) (.slice A386_4 ((rd_T25 l0 x17_1).f4).length c386_4)).trans hx388_1; replace hx388_2 := (cell_far (p := ⟨gb387, 4, none⟩) (by first | (rw [add_block]; exact hn388_4) | (show (Addr.add _ _).block ≠ _; rw [add_block]; exact hn388_4) | exact hn388_4) (.slice A386_4 ((rd_T25 l0 x17_1).f4).length c386_4)).trans hx388_2; replace hx388_3 := (cell_far (p := ⟨gb387, 4, none⟩) (by first | (rw [add_block]; exact hn388_4) | (show (Addr.add _ _).block ≠ _; rw [add_block]; exact hn388_4) | exact hn388_4) (.slice A386_4 ((rd_T25 l0 x17_1).f4).length c386_4)).trans hx388_3; replace hx388_4 := (cell_far (p := ⟨gb387, 4, none⟩) (by first | (rw [add_block]; exact hn388_4) | (show (Addr.add _ _).block ≠ _; rw [add_block]; exact hn388_4) | exact hn388_4) (.slice A386_4 ((rd_T25 l0 x17_1).f4).length c386_4)).trans hx388_4; clear hn388_0; clear hn388_1; clear hn388_2; clear hn388_3; clear hn388_4; replace p388 := eq_true p388; replace q388 := eq_true q388) | ((with_reducible refine gate_dst (N := 9) rfl ?_); refine box_event ?hg (N := 9) ?hd (cs := #[.int .i64 0, .string (⟨#[]⟩ : ByteArray), .string (⟨#[]⟩ : ByteArray), .string (⟨#[]⟩ : ByteArray), .slice none 0 0]) (t := 25) ?hr ?_; (case hd => rfl); (case hg => rfl); (case hr => first | (go_simp; done) | (go_simp; rfl)); intro gb389 hg w13 hbox hb; have n0_ := Aside0.mk (blk_below (g := gb387) (o := .cells #[.int .i64 ((rd_T25 l0 x17_1).f0), .string ((rd_T25 l0 x17_1).f1), .string ((rd_T25 l0 x17_1).f2), .string ((rd_T25 l0 x17_1).f3), .slice A386_4 ((rd_T25 l0 x17_1).f4).length c386_4] 25 (0, 0)) (by (with_reducible repeat (first | refine blk_drewN ?_ _ | refine blk_drew ?_ | refine blk_alloc ?_ _)); refine blk_put (cs := #[.int .i64 ((rd_T25 l0 x17_1).f0), .string ((rd_T25 l0 x17_1).f1), .string ((rd_T25 l0 x17_1).f2), .string ((rd_T25 l0 x17_1).f3), .slice none 0 0]) ?_ 4 _ rfl; (with_reducible repeat (first | refine blk_drewN ?_ _ | refine blk_drew ?_ | refine blk_alloc ?_ _)); refine blk_put (cs := #[.int .i64 ((rd_T25 l0 x17_1).f0), .string ((rd_T25 l0 x17_1).f1), .string ((rd_T25 l0 x17_1).f2), .string (⟨#[]⟩ : ByteArray), .slice none 0 0]) ?_ 3 _ rfl; (with_reducible repeat (first | refine blk_drewN ?_ _ | refine blk_drew ?_ | refine blk_alloc ?_ _)); refine blk_put (cs := #[.int .i64 ((rd_T25 l0 x17_1).f0), .string ((rd_T25 l0 x17_1).f1), .string (⟨#[]⟩ : ByteArray), .string (⟨#[]⟩ : ByteArray), .slice none 0 0]) ?_ 2 _ rfl; (with_reducible repeat (first | refine blk_drewN ?_ _ | refine blk_drew ?_ | refine blk_alloc ?_ _)); refine blk_put (cs := #[.int .i64 ((rd_T25 l0 x17_1).f0), .string (⟨#[]⟩ : ByteArray), .string (⟨#[]⟩ : ByteArray), .string (⟨#[]⟩ : ByteArray), .slice none 0 0]) ?_ 1 _ rfl; (with_reducible repeat (first | refine blk_drewN ?_ _ | refine blk_drew ?_ | refine blk_alloc ?_ _)); refine blk_put (cs := #[.int .i64 0, .string (⟨#[]⟩ : ByteArray), .string (⟨#[]⟩ : ByteArray), .string (⟨#[]⟩ : ByteArray), .slice none 0 0]) ?_ 0 _ rfl; (with_reducible repeat (first | refine blk_drewN ?_ _ | refine blk_drew ?_ | refine blk_alloc ?_ _)); exact BK387.out) hb); have n1_ := Aside0.mk (below_step (by repeat (first | (with_reducible first | exact HB.out | apply below_alloc | apply pw_below_drewN | apply below_drew1 | refine below_set ?_ GE387.out) | exact HB.out)) hb); have n2_ := Aside0.mk (hbox); have n3_ := Aside0.mk ((by rw [hg]; exact (below_size (by repeat (first | (with_reducible first | exact HB.out | apply below_alloc | apply pw_below_drewN | apply below_drew1 | refine below_set ?_ GE387.out) | exact HB.out))) : w.heap.size ≤ gb389)); have n4_ := Aside0.mk ((by rw [hg]; exact (below_size (by repeat (first | (with_reducible first | exact HB.out | apply below_alloc | apply pw_below_drewN | apply below_drew1 | refine below_set ?_ GE387.out) | exact HB.out))) : w.heap.size ≤ gb389)); have n5_ := Aside0.mk ((by rw [hg]; exact Nat.ne_of_lt (blk_lt (g := gb387) (o := .cells #[.int .i64 ((rd_T25 l0 x17_1).f0), .string ((rd_T25 l0 x17_1).f1), .string ((rd_T25 l0 x17_1).f2), .string ((rd_T25 l0 x17_1).f3), .slice A386_4 ((rd_T25 l0 x17_1).f4).length c386_4] 25 (0, 0)) (by (with_reducible repeat (first | refine blk_drewN ?_ _ | refine blk_drew ?_ | refine blk_alloc ?_ _)); refine blk_put (cs := #[.int .i64 ((rd_T25 l0 x17_1).f0), .string ((rd_T25 l0 x17_1).f1), .string ((rd_T25 l0 x17_1).f2), .string ((rd_T25 l0 x17_1).f3), .slice none 0 0]) ?_ 4 _ rfl; (with_reducible repeat (first | refine blk_drewN ?_ _ | refine blk_drew ?_ | refine blk_alloc ?_ _)); refine blk_put (cs := #[.int .i64 ((rd_T25 l0 x17_1).f0), .string ((rd_T25 l0 x17_1).f1), .string ((rd_T25 l0 x17_1).f2), .string (⟨#[]⟩ : ByteArray), .slice none 0 0]) ?_ 3 _ rfl; (with_reducible repeat (first | refine blk_drewN ?_ _ | refine blk_drew ?_ | refine blk_alloc ?_ _)); refine blk_put (cs := #[.int .i64 ((rd_T25 l0 x17_1).f0), .string ((rd_T25 l0 x17_1).f1), .string (⟨#[]⟩ : ByteArray), .string (⟨#[]⟩ : ByteArray), .slice none 0 0]) ?_ 2 _ rfl; (with_reducible repeat (first | refine blk_drewN ?_ _ | refine blk_drew ?_ | refine blk_alloc ?_ _)); refine blk_put (cs := #[.int .i64 ((rd_T25 l0 x17_1).f0), .string (⟨#[]⟩ : ByteArray), .string (⟨#[]⟩ : ByteArray), .string (⟨#[]⟩ : ByteArray), .slice none 0 0]) ?_ 1 _ rfl; (with_reducible repeat (first | refine blk_drewN ?_ _ | refine blk_drew ?_ | refine blk_alloc ?_ _)); refine blk_put (cs := #[.int .i64 0, .string (⟨#[]⟩ : ByteArray), .string (⟨#[]⟩ : ByteArray), .string (⟨#[]⟩ : ByteArray), .slice none 0 0]) ?_ 0 _ rfl; (with_reducible repeat (first | refine blk_drewN ?_ _ | refine blk_drew ?_ | refine blk_alloc ?_ _)); exact BK387.out)) : gb387 ≠ gb389)); have n6_ := Aside0.mk ((by rw [hg]; exact Nat.ne_of_gt (blk_lt (g := gb387) (o := .cells #[.int .i64 ((rd_T25 l0 x17_1).f0), .string ((rd_T25 l0 x17_1).f1), .string ((rd_T25 l0 x17_1).f2), .string ((rd_T25 l0 x17_1).f3), .slice A386_4 ((rd_T25 l0 x17_1).f4).length c386_4] 25 (0, 0)) (by (with_reducible repeat (first | refine blk_drewN ?_ _ | refine blk_drew ?_ | refine blk_alloc ?_ _)); refine blk_put (cs := #[.int .i64 ((rd_T25 l0 x17_1).f0), .string ((rd_T25 l0 x17_1).f1), .string ((rd_T25 l0 x17_1).f2), .string ((rd_T25 l0 x17_1).f3), .slice none 0 0]) ?_ 4 _ rfl; (with_reducible repeat (first | refine blk_drewN ?_ _ | refine blk_drew ?_ | refine blk_alloc ?_ _)); refine blk_put (cs := #[.int .i64 ((rd_T25 l0 x17_1).f0), .string ((rd_T25 l0 x17_1).f1), .string ((rd_T25 l0 x17_1).f2), .string (⟨#[]⟩ : ByteArray), .slice none 0 0]) ?_ 3 _ rfl; (with_reducible repeat (first | refine blk_drewN ?_ _ | refine blk_drew ?_ | refine blk_alloc ?_ _)); refine blk_put (cs := #[.int .i64 ((rd_T25 l0 x17_1).f0), .string ((rd_T25 l0 x17_1).f1), .string (⟨#[]⟩ : ByteArray), .string (⟨#[]⟩ : ByteArray), .slice none 0 0]) ?_ 2 _ rfl; (with_reducible repeat (first | refine blk_drewN ?_ _ | refine blk_drew ?_ | refine blk_alloc ?_ _)); refine blk_put (cs := #[.int .i64 ((rd_T25 l0 x17_1).f0), .string (⟨#[]⟩ : ByteArray), .string (⟨#[]⟩ : ByteArray), .string (⟨#[]⟩ : ByteArray), .slice none 0 0]) ?_ 1 _ rfl; (with_reducible repeat (first | refine blk_drewN ?_ _ | refine blk_drew ?_ | refine blk_alloc ?_ _)); refine blk_put (cs := #[.int .i64 0, .string (⟨#[]⟩ : ByteArray), .string (⟨#[]⟩ : ByteArray), .string (⟨#[]⟩ : ByteArray), .slice none 0 0]) ?_ 0 _ rfl; (with_reducible repeat (first | refine blk_drewN ?_ _ | refine blk_drew ?_ | refine blk_alloc ?_ _)); exact BK387.out)) : gb389 ≠ gb387)); clear BK387; clear HB; have BK387 := n0_; have HB := n1_; have BK389 := n2_; have GW389 := n3_; have GE389 := n4_; have NB387_389 := n5_; have NB389_387 := n6_; clear n0_ n1_ n2_ n3_ n4_ n5_ n6_; clear hb hbox hg; have hnb14 := NB389_387.out; have hnc14 := NB387_389.out; have hcz15_0 : w13.cell? ⟨gb389, 0, none⟩ = some (.int .i64 0) := (blk_cell BK389.out 0).trans rfl; have hcz15_1 : w13.cell? ⟨gb389, 1, none⟩ = some (.string (⟨#[]⟩ : ByteArray)) := (blk_cell BK389.out 1).trans rfl; have hcz15_2 : w13.cell? ⟨gb389, 2, none⟩ = some (.string (⟨#[]⟩ : ByteArray)) := (blk_cell BK389.out 2).trans rfl; have hcz15_3 : w13.cell? ⟨gb389, 3, none⟩ = some (.string (⟨#[]⟩ : ByteArray)) := (blk_cell BK389.out 3).trans rfl; have hcz15_4 : w13.cell? ⟨gb389, 4, none⟩ = some (.slice none 0 0) := (blk_cell BK389.out 4).trans rfl; have hfz15_0 := blk_frozen BK389.out 0; have hfz15_1 := blk_frozen BK389.out 1; have hfz15_2 := blk_frozen BK389.out 2; have hfz15_3 := blk_frozen BK389.out 3; have hfz15_4 := blk_frozen BK389.out 4; have hcz16_0 : w13.cell? ⟨gb387, 0, none⟩ = some (.int .i64 ((rd_T25 l0 x17_1).f0)) := (blk_cell BK387.out 0).trans rfl; have hcz16_1 : w13.cell? ⟨gb387, 1, none⟩ = some (.string ((rd_T25 l0 x17_1).f1)) := (blk_cell BK387.out 1).trans rfl; have hcz16_2 : w13.cell? ⟨gb387, 2, none⟩ = some (.string ((rd_T25 l0 x17_1).f2)) := (blk_cell BK387.out 2).trans rfl; have hcz16_3 : w13.cell? ⟨gb387, 3, none⟩ = some (.string ((rd_T25 l0 x17_1).f3)) := (blk_cell BK387.out 3).trans rfl; have hcz16_4 : w13.cell? ⟨gb387, 4, none⟩ = some (.slice A386_4 ((rd_T25 l0 x17_1).f4).length c386_4) := (blk_cell BK387.out 4).trans rfl; have hfz16_0 := blk_frozen BK387.out 0; have hfz16_1 := blk_frozen BK387.out 1; have hfz16_2 := blk_frozen BK387.out 2; have hfz16_3 := blk_frozen BK387.out 3; have hfz16_4 := blk_frozen BK387.out 4) | ((with_reducible refine gate_calleeT rfl ?_); refine goesLT_ (some 29) rfl rfl Try.func46 (by kernel_rfl) rfl #[.agg #[.int .i64 ((rd_T25 l0 x17_1).f0), .string ((rd_T25 l0 x17_1).f1), .string ((rd_T25 l0 x17_1).f2), .string ((rd_T25 l0 x17_1).f3), .slice A386_4 ((rd_T25 l0 x17_1).f4).length c386_4], .agg #[.int .i64 ((rd_T25 l1 x17_1).f0), .string ((rd_T25 l1 x17_1).f1), .string ((rd_T25 l1 x17_1).f2), .string ((rd_T25 l1 x17_1).f3), .slice A388_4 ((rd_T25 l1 x17_1).f4).length c388_4]] rfl (by (try simp only [List.map_toArray, List.map_cons, List.map_nil]); first | done | rfl | (simp only [List.length_drop, List.length_take]; rfl)) ?_; (with_reducible refine (tree_Same_1.calls k1 ((rd_T25 l0 x17_1).f0) ((rd_T25 l0 x17_1).f1) ((rd_T25 l0 x17_1).f2) ((rd_T25 l0 x17_1).f3) _ _ ((rd_T25 l0 x17_1).f4) ((rd_T25 l1 x17_1).f0) ((rd_T25 l1 x17_1).f1) ((rd_T25 l1 x17_1).f2) ((rd_T25 l1 x17_1).f3) _ _ ((rd_T25 l1 x17_1).f4) true _ ?side1 ?side2 ?side3 ?side4 A9.out).mono ?_); (case side1 => exact Kd.C_below HR386_4.out (by repeat (first | (with_reducible first | exact HB.out | apply below_alloc | apply pw_below_drewN | apply below_drew1 | refine below_set ?_ GE387.out | refine below_set ?_ GE389.out) | exact HB.out))); (case side2 => exact HC386_4.out); (case side3 => exact Kd.C_below HR388_4.out (by repeat (first | (with_reducible first | exact HB.out | apply below_alloc | apply pw_below_drewN | apply below_drew1 | refine below_set ?_ GE387.out | refine below_set ?_ GE389.out) | exact HB.out))); (case side4 => exact HC388_4.out); rintro e w17 ⟨rfl, hb⟩; refine ⟨_, rfl, ?_⟩; have n0_ := Aside0.mk (blk_below (g := gb387) (o := .cells #[.int .i64 ((rd_T25 l0 x17_1).f0), .string ((rd_T25 l0 x17_1).f1), .string ((rd_T25 l0 x17_1).f2), .string ((rd_T25 l0 x17_1).f3), .slice A386_4 ((rd_T25 l0 x17_1).f4).length c386_4] 25 (0, 0)) (by (with_reducible repeat (first | refine blk_drewN ?_ _ | refine blk_drew ?_ | refine blk_alloc ?_ _)); refine blk_far ?_ NB387_389.out _; (with_reducible repeat (first | refine blk_drewN ?_ _ | refine blk_drew ?_ | refine blk_alloc ?_ _)); refine blk_far ?_ NB387_389.out _; (with_reducible repeat (first | refine blk_drewN ?_ _ | refine blk_drew ?_ | refine blk_alloc ?_ _)); refine blk_far ?_ NB387_389.out _; (with_reducible repeat (first | refine blk_drewN ?_ _ | refine blk_drew ?_ | refine blk_alloc ?_ _)); refine blk_far ?_ NB387_389.out _; (with_reducible repeat (first | refine blk_drewN ?_ _ | refine blk_drew ?_ | refine blk_alloc ?_ _)); refine blk_far ?_ NB387_389.out _; (with_reducible repeat (first | refine blk_drewN ?_ _ | refine blk_drew ?_ | refine blk_alloc ?_ _)); exact BK387.out) hb); have n1_ := Aside0.mk (blk_below (g := gb389) (o := .cells #[.int .i64 ((rd_T25 l1 x17_1).f0), .string ((rd_T25 l1 x17_1).f1), .string ((rd_T25 l1 x17_1).f2), .string ((rd_T25 l1 x17_1).f3), .slice A388_4 ((rd_T25 l1 x17_1).f4).length c388_4] 25 (0, 0)) (by (with_reducible repeat (first | refine blk_drewN ?_ _ | refine blk_drew ?_ | refine blk_alloc ?_ _)); refine blk_put (cs := #[.int .i64 ((rd_T25 l1 x17_1).f0), .string ((rd_T25 l1 x17_1).f1), .string ((rd_T25 l1 x17_1).f2), .string ((rd_T25 l1 x17_1).f3), .slice none 0 0]) ?_ 4 _ rfl; (with_reducible repeat (first | refine blk_drewN ?_ _ | refine blk_drew ?_ | refine blk_alloc ?_ _)); refine blk_put (cs := #[.int .i64 ((rd_T25 l1 x17_1).f0), .string ((rd_T25 l1 x17_1).f1), .string ((rd_T25 l1 x17_1).f2), .string (⟨#[]⟩ : ByteArray), .slice none 0 0]) ?_ 3 _ rfl; (with_reducible repeat (first | refine blk_drewN ?_ _ | refine blk_drew ?_ | refine blk_alloc ?_ _)); refine blk_put (cs := #[.int .i64 ((rd_T25 l1 x17_1).f0), .string ((rd_T25 l1 x17_1).f1), .string (⟨#[]⟩ : ByteArray), .string (⟨#[]⟩ : ByteArray), .slice none 0 0]) ?_ 2 _ rfl; (with_reducible repeat (first | refine blk_drewN ?_ _ | refine blk_drew ?_ | refine blk_alloc ?_ _)); refine blk_put (cs := #[.int .i64 ((rd_T25 l1 x17_1).f0), .string (⟨#[]⟩ : ByteArray), .string (⟨#[]⟩ : ByteArray), .string (⟨#[]⟩ : ByteArray), .slice none 0 0]) ?_ 1 _ rfl; (with_reducible repeat (first | refine blk_drewN ?_ _ | refine blk_drew ?_ | refine blk_alloc ?_ _)); refine blk_put (cs := #[.int .i64 0, .string (⟨#[]⟩ : ByteArray), .string (⟨#[]⟩ : ByteArray), .string (⟨#[]⟩ : ByteArray), .slice none 0 0]) ?_ 0 _ rfl; (with_reducible repeat (first | refine blk_drewN ?_ _ | refine blk_drew ?_ | refine blk_alloc ?_ _)); exact BK389.out) hb); have n2_ := Aside0.mk (below_step (by repeat (first | (with_reducible first | exact HB.out | apply below_alloc | apply pw_below_drewN | apply below_drew1 | refine below_set ?_ GE387.out | refine below_set ?_ GE389.out) | exact HB.out)) hb); clear BK387; clear BK389; clear HB; have BK387 := n0_; have BK389 := n1_; have HB := n2_; clear n0_ n1_ n2_; (try clear hb); (try clear hb2); (try clear hk); (try clear hi)))
                  go_roundg k1
                  case measure => have := HK1.out; omega
                  case rel => exact ⟨(wrap64 (x17_1 + 1)), (by first | rfl | (simp; done) | (simp [*]; done)), H', ⟨by have := HK1.out; omega⟩, ⟨by repeat (first | (with_reducible first | exact HB.out | apply below_alloc | apply pw_below_drewN | apply below_drew1 | refine below_set ?_ GE387.out | refine below_set ?_ GE389.out) | exact HB.out)⟩⟩
                · replace c10 := Bool.eq_false_iff.mpr c10
                  subst c10
                  have H1 : (some false) = some r := by rw [if_neg (show ¬ (false = true) by decide)] at H; exact H
                  clear H
                  have H := H1
                  clear H1
                  obtain rfl := Option.some.inj H
                  have p386 : 0 ≤ (x17_1 : Int) := of_decide_eq_true (by first | (with_reducible assumption) | assumption)
                  have q386 : x17_1 < (l0.length : Int) := of_decide_eq_true (by first | (with_reducible assumption) | assumption)
                  obtain ⟨ad386, A386_4, c386_4, e386, hx386_0, hx386_1, hx386_2, hx386_3, hx386_4, hl386_4, hi386_4⟩ := at_T25 HR0.out x17_1 p386 q386
                  cases e386
                  replace hx386_0 := (HB.out.cell (World.block_lt_of_cell? w _ hx386_0)).trans hx386_0
                  replace hx386_1 := (HB.out.cell (World.block_lt_of_cell? w _ hx386_1)).trans hx386_1
                  replace hx386_2 := (HB.out.cell (World.block_lt_of_cell? w _ hx386_2)).trans hx386_2
                  replace hx386_3 := (HB.out.cell (World.block_lt_of_cell? w _ hx386_3)).trans hx386_3
                  replace hx386_4 := (HB.out.cell (World.block_lt_of_cell? w _ hx386_4)).trans hx386_4
                  have HR386_4 := Aside0.mk hi386_4
                  have HC386_4 := Aside0.mk hl386_4
                  clear hi386_4 hl386_4
                  replace p386 := eq_true p386
                  replace q386 := eq_true q386
                  go_wp2_with (first | ((with_reducible refine gate_dst (N := 8) rfl ?_); refine box_event ?hg (N := 8) ?hd (cs := #[.int .i64 0, .string (⟨#[]⟩ : ByteArray), .string (⟨#[]⟩ : ByteArray), .string (⟨#[]⟩ : ByteArray), .slice none 0 0]) (t := 25) ?hr ?_; (case hd => rfl); (case hg => rfl); (case hr => first | (go_simp; done) | (go_simp; rfl)); intro gb387 hg w18 hbox hb; have n0_ := Aside0.mk (below_step (by repeat (first | (with_reducible first | exact HB.out | apply below_alloc | apply pw_below_drewN | apply below_drew1) | exact HB.out)) hb); have n1_ := Aside0.mk (hbox); have n2_ := Aside0.mk ((by rw [hg]; exact (below_size (by repeat (first | (with_reducible first | exact HB.out | apply below_alloc | apply pw_below_drewN | apply below_drew1) | exact HB.out))) : w.heap.size ≤ gb387)); have n3_ := Aside0.mk ((by rw [hg]; exact (below_size (by repeat (first | (with_reducible first | exact HB.out | apply below_alloc | apply pw_below_drewN | apply below_drew1) | exact HB.out))) : w.heap.size ≤ gb387)); clear HB; have HB := n0_; have BK387 := n1_; have GW387 := n2_; have GE387 := n3_; clear n0_ n1_ n2_ n3_; clear hb hbox hg; have hcz19_0 : w18.cell? ⟨gb387, 0, none⟩ = some (.int .i64 0) := (blk_cell BK387.out 0).trans rfl; have hcz19_1 : w18.cell? ⟨gb387, 1, none⟩ = some (.string (⟨#[]⟩ : ByteArray)) := (blk_cell BK387.out 1).trans rfl; have hcz19_2 : w18.cell? ⟨gb387, 2, none⟩ = some (.string (⟨#[]⟩ : ByteArray)) := (blk_cell BK387.out 2).trans rfl; have hcz19_3 : w18.cell? ⟨gb387, 3, none⟩ = some (.string (⟨#[]⟩ : ByteArray)) := (blk_cell BK387.out 3).trans rfl; have hcz19_4 : w18.cell? ⟨gb387, 4, none⟩ = some (.slice none 0 0) := (blk_cell BK387.out 4).trans rfl; have hfz19_0 := blk_frozen BK387.out 0; have hfz19_1 := blk_frozen BK387.out 1; have hfz19_2 := blk_frozen BK387.out 2; have hfz19_3 := blk_frozen BK387.out 3; have hfz19_4 := blk_frozen BK387.out 4; have p388 : 0 ≤ (x17_1 : Int) := of_decide_eq_true (by first | (with_reducible assumption) | assumption); have q388 : x17_1 < (l1.length : Int) := of_decide_eq_true (by first | (with_reducible assumption) | assumption); obtain ⟨ad388, A388_4, c388_4, e388, hx388_0, hx388_1, hx388_2, hx388_3, hx388_4, hl388_4, hi388_4⟩ := at_T25 HR1.out x17_1 p388 q388; cases e388; have hn388_0 : ad388.block ≠ gb387 := Nat.ne_of_lt (Nat.lt_of_lt_of_le (by have := World.block_lt_of_cell? _ _ hx388_0; first | rwa [add_block] at this | exact this) GW387.out); have hn388_1 : ad388.block ≠ gb387 := Nat.ne_of_lt (Nat.lt_of_lt_of_le (by have := World.block_lt_of_cell? _ _ hx388_0; first | rwa [add_block] at this | exact this) GW387.out); have hn388_2 : ad388.block ≠ gb387 := Nat.ne_of_lt (Nat.lt_of_lt_of_le (by have := World.block_lt_of_cell? _ _ hx388_0; first | rwa [add_block] at this | exact this) GW387.out); have hn388_3 : ad388.block ≠ gb387 := Nat.ne_of_lt (Nat.lt_of_lt_of_le (by have := World.block_lt_of_cell? _ _ hx388_0; first | rwa [add_block] at this | exact this) GW387.out); have hn388_4 : ad388.block ≠ gb387 := Nat.ne_of_lt (Nat.lt_of_lt_of_le (by have := World.block_lt_of_cell? _ _ hx388_0; first | rwa [add_block] at this | exact this) GW387.out); replace hx388_0 := (HB.out.cell (World.block_lt_of_cell? w _ hx388_0)).trans hx388_0; replace hx388_1 := (HB.out.cell (World.block_lt_of_cell? w _ hx388_1)).trans hx388_1; replace hx388_2 := (HB.out.cell (World.block_lt_of_cell? w _ hx388_2)).trans hx388_2; replace hx388_3 := (HB.out.cell (World.block_lt_of_cell? w _ hx388_3)).trans hx388_3; replace hx388_4 := (HB.out.cell (World.block_lt_of_cell? w _ hx388_4)).trans hx388_4; have HR388_4 := Aside0.mk hi388_4; have HC388_4 := Aside0.mk hl388_4; clear hi388_4 hl388_4; replace hx388_0 := (cell_far (p := ⟨gb387, 0, none⟩) (by first | (rw [add_block]; exact hn388_0) | (show (Addr.add _ _).block ≠ _; rw [add_block]; exact hn388_0) | exact hn388_0) (.int .i64 ((rd_T25 l0 x17_1).f0))).trans hx388_0; replace hx388_1 := (cell_far (p := ⟨gb387, 0, none⟩) (by first | (rw [add_block]; exact hn388_0) | (show (Addr.add _ _).block ≠ _; rw [add_block]; exact hn388_0) | exact hn388_0) (.int .i64 ((rd_T25 l0 x17_1).f0))).trans hx388_1; replace hx388_2 := (cell_far (p := ⟨gb387, 0, none⟩) (by first | (rw [add_block]; exact hn388_0) | (show (Addr.add _ _).block ≠ _; rw [add_block]; exact hn388_0) | exact hn388_0) (.int .i64 ((rd_T25 l0 x17_1).f0))).trans hx388_2; replace hx388_3 := (cell_far (p := ⟨gb387, 0, none⟩) (by first | (rw [add_block]; exact hn388_0) | (show (Addr.add _ _).block ≠ _; rw [add_block]; exact hn388_0) | exact hn388_0) (.int .i64 ((rd_T25 l0 x17_1).f0))).trans hx388_3; replace hx388_4 := (cell_far (p := ⟨gb387, 0, none⟩) (by first | (rw [add_block]; exact hn388_0) | (show (Addr.add _ _).block ≠ _; rw [add_block]; exact hn388_0) | exact hn388_0) (.int .i64 ((rd_T25 l0 x17_1).f0))).trans hx388_4; replace hx388_0 := (cell_far (p := ⟨gb387, 1, none⟩) (by first | (rw [add_block]; exact hn388_1) | (show (Addr.add _ _).block ≠ _; rw [add_block]; exact hn388_1) | exact hn388_1) (.string ((rd_T25 l0 x17_1).f1))).trans hx388_0; replace hx388_1 := (cell_far (p := ⟨gb387, 1, none⟩) (by first | (rw [add_block]; exact hn388_1) | (show (Addr.add _ _).block ≠ _; rw [add_block]; exact hn388_1) | exact hn388_1) (.string ((rd_T25 l0 x17_1).f1))).trans hx388_1; replace hx388_2 := (cell_far (p := ⟨gb387, 1, none⟩) (by first | (rw [add_block]; exact hn388_1) | (show (Addr.add _ _).block ≠ _; rw [add_block]; exact hn388_1) | exact hn388_1) (.string ((rd_T25 l0 x17_1).f1))).trans hx388_2; replace hx388_3 := (cell_far (p := ⟨gb387, 1, none⟩) (by first | (rw [add_block]; exact hn388_1) | (show (Addr.add _ _).block ≠ _; rw [add_block]; exact hn388_1) | exact hn388_1) (.string ((rd_T25 l0 x17_1).f1))).trans hx388_3; replace hx388_4 := (cell_far (p := ⟨gb387, 1, none⟩) (by first | (rw [add_block]; exact hn388_1) | (show (Addr.add _ _).block ≠ _; rw [add_block]; exact hn388_1) | exact hn388_1) (.string ((rd_T25 l0 x17_1).f1))).trans hx388_4; replace hx388_0 := (cell_far (p := ⟨gb387, 2, none⟩) (by first | (rw [add_block]; exact hn388_2) | (show (Addr.add _ _).block ≠ _; rw [add_block]; exact hn388_2) | exact hn388_2) (.string ((rd_T25 l0 x17_1).f2))).trans hx388_0; replace hx388_1 := (cell_far (p := ⟨gb387, 2, none⟩) (by first | (rw [add_block]; exact hn388_2) | (show (Addr.add _ _).block ≠ _; rw [add_block]; exact hn388_2) | exact hn388_2) (.string ((rd_T25 l0 x17_1).f2))).trans hx388_1; replace hx388_2 := (cell_far (p := ⟨gb387, 2, none⟩) (by first | (rw [add_block]; exact hn388_2) | (show (Addr.add _ _).block ≠ _; rw [add_block]; exact hn388_2) | exact hn388_2) (.string ((rd_T25 l0 x17_1).f2))).trans hx388_2; replace hx388_3 := (cell_far (p := ⟨gb387, 2, none⟩) (by first | (rw [add_block]; exact hn388_2) | (show (Addr.add _ _).block ≠ _; rw [add_block]; exact hn388_2) | exact hn388_2) (.string ((rd_T25 l0 x17_1).f2))).trans hx388_3; replace hx388_4 := (cell_far (p := ⟨gb387, 2, none⟩) (by first | (rw [add_block]; exact hn388_2) | (show (Addr.add _ _).block ≠ _; rw [add_block]; exact hn388_2) | exact hn388_2) (.string ((rd_T25 l0 x17_1).f2))).trans hx388_4; replace hx388_0 := (cell_far (p := ⟨gb387, 3, none⟩) (by first | (rw [add_block]; exact hn388_3) | (show (Addr.add _ _).block ≠ _; rw [add_block]; exact hn388_3) | exact hn388_3) (.string ((rd_T25 l0 x17_1).f3))).trans hx388_0; replace hx388_1 := (cell_far (p := ⟨gb387, 3, none⟩) (by first | (rw [add_block]; exact hn388_3) | (show (Addr.add _ _).block ≠ _; rw [add_block]; exact hn388_3) | exact hn388_3) (.string ((rd_T25 l0 x17_1).f3))).trans hx388_1; replace hx388_2 := (cell_far (p := ⟨gb387, 3, none⟩) (by first | (rw [add_block]; exact hn388_3) | (show (Addr.add _ _).block ≠ _; rw [add_block]; exact hn388_3) | exact hn388_3) (.string ((rd_T25 l0 x17_1).f3))).trans hx388_2; replace hx388_3 := (cell_far (p := ⟨gb387, 3, none⟩) (by first | (rw [add_block]; exact hn388_3) | (show (Addr.add _ _).block ≠ _; rw [add_block]; exact hn388_3) | exact hn388_3) (.string ((rd_T25 l0 x17_1).f3))).trans hx388_3; replace hx388_4 := (cell_far (p := ⟨gb387, 3, none⟩) (by first | (rw [add_block]; exact hn388_3) | (show (Addr.add _ _).block ≠ _; rw [add_block]; exact hn388_3) | exact hn388_3) (.string ((rd_T25 l0 x17_1).f3))).trans hx388_4; replace hx388_0 := (cell_far (p := ⟨gb387, 4, none⟩) (by first | (rw [add_block]; exact hn388_4) | (show (Addr.add _ _).block ≠ _; rw [add_block]; exact hn388_4) | exact hn388_4) (.slice A386_4 ((rd_T25 l0 x17_1).f4).length c386_4)).trans hx388_0; replace hx388_1 := (cell_far (p := ⟨gb387, 4, none⟩) (by first | (rw [add_block]; exact hn388_4) | (show (Addr.add _ _).block ≠ _; rw [add_block]; exact hn388_4) | exact hn388_4) (.slice A386_4 ((rd_T25 l0 x17_1).f4).length c386_4)).trans hx388_1; replace hx388_2 := (cell_far (p := ⟨gb387, 4, none⟩) (by first | (rw [add_block]; exact hn388_4) | (show (Addr.add _ _).block ≠ _; rw [add_block]; exact hn388_4) | exact hn388_4) (.slice A386_4 ((rd_T25 l0 x17_1).f4).length c386_4)).trans hx388_2; replace hx388_3 := (cell_far (p := ⟨gb387, 4, none⟩) (by first | (rw [add_block]; exact hn388_4) | (show (Addr.add _ _).block ≠ _; rw [add_block]; exact hn388_4) | exact hn388_4) (.slice A386_4 ((rd_T25 l0 x17_1).f4).length c386_4)).trans hx388_3; replace hx388_4 := (cell_far (p := ⟨gb387, 4, none⟩) (by first | (rw [add_block]; exact hn388_4) | (show (Addr.add _ _).block ≠ _; rw [add_block]; exact hn388_4) | exact hn388_4) (.slice A386_4 ((rd_T25 l0 x17_1).f4).length c386_4)).trans hx388_4; clear hn388_0; clear hn388_1; clear hn388_2; clear hn388_3; clear hn388_4; replace p388 := eq_true p388; replace q388 := eq_true q388) | ((with_reducible refine gate_dst (N := 9) rfl ?_); refine box_event ?hg (N := 9) ?hd (cs := #[.int .i64 0, .string (⟨#[]⟩ : ByteArray), .string (⟨#[]⟩ : ByteArray), .string (⟨#[]⟩ : ByteArray), .slice none 0 0]) (t := 25) ?hr ?_; (case hd => rfl); (case hg => rfl); (case hr => first | (go_simp; done) | (go_simp; rfl)); intro gb389 hg w20 hbox hb; have n0_ := Aside0.mk (blk_below (g := gb387) (o := .cells #[.int .i64 ((rd_T25 l0 x17_1).f0), .string ((rd_T25 l0 x17_1).f1), .string ((rd_T25 l0 x17_1).f2), .string ((rd_T25 l0 x17_1).f3), .slice A386_4 ((rd_T25 l0 x17_1).f4).length c386_4] 25 (0, 0)) (by (with_reducible repeat (first | refine blk_drewN ?_ _ | refine blk_drew ?_ | refine blk_alloc ?_ _)); refine blk_put (cs := #[.int .i64 ((rd_T25 l0 x17_1).f0), .string ((rd_T25 l0 x17_1).f1), .string ((rd_T25 l0 x17_1).f2), .string ((rd_T25 l0 x17_1).f3), .slice none 0 0]) ?_ 4 _ rfl; (with_reducible repeat (first | refine blk_drewN ?_ _ | refine blk_drew ?_ | refine blk_alloc ?_ _)); refine blk_put (cs := #[.int .i64 ((rd_T25 l0 x17_1).f0), .string ((rd_T25 l0 x17_1).f1), .string ((rd_T25 l0 x17_1).f2), .string (⟨#[]⟩ : ByteArray), .slice none 0 0]) ?_ 3 _ rfl; (with_reducible repeat (first | refine blk_drewN ?_ _ | refine blk_drew ?_ | refine blk_alloc ?_ _)); refine blk_put (cs := #[.int .i64 ((rd_T25 l0 x17_1).f0), .string ((rd_T25 l0 x17_1).f1), .string (⟨#[]⟩ : ByteArray), .string (⟨#[]⟩ : ByteArray), .slice none 0 0]) ?_ 2 _ rfl; (with_reducible repeat (first | refine blk_drewN ?_ _ | refine blk_drew ?_ | refine blk_alloc ?_ _)); refine blk_put (cs := #[.int .i64 ((rd_T25 l0 x17_1).f0), .string (⟨#[]⟩ : ByteArray), .string (⟨#[]⟩ : ByteArray), .string (⟨#[]⟩ : ByteArray), .slice none 0 0]) ?_ 1 _ rfl; (with_reducible repeat (first | refine blk_drewN ?_ _ | refine blk_drew ?_ | refine blk_alloc ?_ _)); refine blk_put (cs := #[.int .i64 0, .string (⟨#[]⟩ : ByteArray), .string (⟨#[]⟩ : ByteArray), .string (⟨#[]⟩ : ByteArray), .slice none 0 0]) ?_ 0 _ rfl; (with_reducible repeat (first | refine blk_drewN ?_ _ | refine blk_drew ?_ | refine blk_alloc ?_ _)); exact BK387.out) hb); have n1_ := Aside0.mk (below_step (by repeat (first | (with_reducible first | exact HB.out | apply below_alloc | apply pw_below_drewN | apply below_drew1 | refine below_set ?_ GE387.out) | exact HB.out)) hb); have n2_ := Aside0.mk (hbox); have n3_ := Aside0.mk ((by rw [hg]; exact (below_size (by repeat (first | (with_reducible first | exact HB.out | apply below_alloc | apply pw_below_drewN | apply below_drew1 | refine below_set ?_ GE387.out) | exact HB.out))) : w.heap.size ≤ gb389)); have n4_ := Aside0.mk ((by rw [hg]; exact (below_size (by repeat (first | (with_reducible first | exact HB.out | apply below_alloc | apply pw_below_drewN | apply below_drew1 | refine below_set ?_ GE387.out) | exact HB.out))) : w.heap.size ≤ gb389)); have n5_ := Aside0.mk ((by rw [hg]; exact Nat.ne_of_lt (blk_lt (g := gb387) (o := .cells #[.int .i64 ((rd_T25 l0 x17_1).f0), .string ((rd_T25 l0 x17_1).f1), .string ((rd_T25 l0 x17_1).f2), .string ((rd_T25 l0 x17_1).f3), .slice A386_4 ((rd_T25 l0 x17_1).f4).length c386_4] 25 (0, 0)) (by (with_reducible repeat (first | refine blk_drewN ?_ _ | refine blk_drew ?_ | refine blk_alloc ?_ _)); refine blk_put (cs := #[.int .i64 ((rd_T25 l0 x17_1).f0), .string ((rd_T25 l0 x17_1).f1), .string ((rd_T25 l0 x17_1).f2), .string ((rd_T25 l0 x17_1).f3), .slice none 0 0]) ?_ 4 _ rfl; (with_reducible repeat (first | refine blk_drewN ?_ _ | refine blk_drew ?_ | refine blk_alloc ?_ _)); refine blk_put (cs := #[.int .i64 ((rd_T25 l0 x17_1).f0), .string ((rd_T25 l0 x17_1).f1), .string ((rd_T25 l0 x17_1).f2), .string (⟨#[]⟩ : ByteArray), .slice none 0 0]) ?_ 3 _ rfl; (with_reducible repeat (first | refine blk_drewN ?_ _ | refine blk_drew ?_ | refine blk_alloc ?_ _)); refine blk_put (cs := #[.int .i64 ((rd_T25 l0 x17_1).f0), .string ((rd_T25 l0 x17_1).f1), .string (⟨#[]⟩ : ByteArray), .string (⟨#[]⟩ : ByteArray), .slice none 0 0]) ?_ 2 _ rfl; (with_reducible repeat (first | refine blk_drewN ?_ _ | refine blk_drew ?_ | refine blk_alloc ?_ _)); refine blk_put (cs := #[.int .i64 ((rd_T25 l0 x17_1).f0), .string (⟨#[]⟩ : ByteArray), .string (⟨#[]⟩ : ByteArray), .string (⟨#[]⟩ : ByteArray), .slice none 0 0]) ?_ 1 _ rfl; (with_reducible repeat (first | refine blk_drewN ?_ _ | refine blk_drew ?_ | refine blk_alloc ?_ _)); refine blk_put (cs := #[.int .i64 0, .string (⟨#[]⟩ : ByteArray), .string (⟨#[]⟩ : ByteArray), .string (⟨#[]⟩ : ByteArray), .slice none 0 0]) ?_ 0 _ rfl; (with_reducible repeat (first | refine blk_drewN ?_ _ | refine blk_drew ?_ | refine blk_alloc ?_ _)); exact BK387.out)) : gb387 ≠ gb389)); have n6_ := Aside0.mk ((by rw [hg]; exact Nat.ne_of_gt (blk_lt (g := gb387) (o := .cells #[.int .i64 ((rd_T25 l0 x17_1).f0), .string ((rd_T25 l0 x17_1).f1), .string ((rd_T25 l0 x17_1).f2), .string ((rd_T25 l0 x17_1).f3), .slice A386_4 ((rd_T25 l0 x17_1).f4).length c386_4] 25 (0, 0)) (by (with_reducible repeat (first | refine blk_drewN ?_ _ | refine blk_drew ?_ | refine blk_alloc ?_ _)); refine blk_put (cs := #[.int .i64 ((rd_T25 l0 x17_1).f0), .string ((rd_T25 l0 x17_1).f1), .string ((rd_T25 l0 x17_1).f2), .string ((rd_T25 l0 x17_1).f3), .slice none 0 0]) ?_ 4 _ rfl; (with_reducible repeat (first | refine blk_drewN ?_ _ | refine blk_drew ?_ | refine blk_alloc ?_ _)); refine blk_put (cs := #[.int .i64 ((rd_T25 l0 x17_1).f0), .string ((rd_T25 l0 x17_1).f1), .string ((rd_T25 l0 x17_1).f2), .string (⟨#[]⟩ : ByteArray), .slice none 0 0]) ?_ 3 _ rfl; (with_reducible repeat (first | refine blk_drewN ?_ _ | refine blk_drew ?_ | refine blk_alloc ?_ _)); refine blk_put (cs := #[.int .i64 ((rd_T25 l0 x17_1).f0), .string ((rd_T25 l0 x17_1).f1), .string (⟨#[]⟩ : ByteArray), .string (⟨#[]⟩ : ByteArray), .slice none 0 0]) ?_ 2 _ rfl; (with_reducible repeat (first | refine blk_drewN ?_ _ | refine blk_drew ?_ | refine blk_alloc ?_ _)); refine blk_put (cs := #[.int .i64 ((rd_T25 l0 x17_1).f0), .string (⟨#[]⟩ : ByteArray), .string (⟨#[]⟩ : ByteArray), .string (⟨#[]⟩ : ByteArray), .slice none 0 0]) ?_ 1 _ rfl; (with_reducible repeat (first | refine blk_drewN ?_ _ | refine blk_drew ?_ | refine blk_alloc ?_ _)); refine blk_put (cs := #[.int .i64 0, .string (⟨#[]⟩ : ByteArray), .string (⟨#[]⟩ : ByteArray), .string (⟨#[]⟩ : ByteArray), .slice none 0 0]) ?_ 0 _ rfl; (with_reducible repeat (first | refine blk_drewN ?_ _ | refine blk_drew ?_ | refine blk_alloc ?_ _)); exact BK387.out)) : gb389 ≠ gb387)); clear BK387; clear HB; have BK387 := n0_; have HB := n1_; have BK389 := n2_; have GW389 := n3_; have GE389 := n4_; have NB387_389 := n5_; have NB389_387 := n6_; clear n0_ n1_ n2_ n3_ n4_ n5_ n6_; clear hb hbox hg; have hnb21 := NB389_387.out; have hnc21 := NB387_389.out; have hcz22_0 : w20.cell? ⟨gb389, 0, none⟩ = some (.int .i64 0) := (blk_cell BK389.out 0).trans rfl; have hcz22_1 : w20.cell? ⟨gb389, 1, none⟩ = some (.string (⟨#[]⟩ : ByteArray)) := (blk_cell BK389.out 1).trans rfl; have hcz22_2 : w20.cell? ⟨gb389, 2, none⟩ = some (.string (⟨#[]⟩ : ByteArray)) := (blk_cell BK389.out 2).trans rfl; have hcz22_3 : w20.cell? ⟨gb389, 3, none⟩ = some (.string (⟨#[]⟩ : ByteArray)) := (blk_cell BK389.out 3).trans rfl; have hcz22_4 : w20.cell? ⟨gb389, 4, none⟩ = some (.slice none 0 0) := (blk_cell BK389.out 4).trans rfl; have hfz22_0 := blk_frozen BK389.out 0; have hfz22_1 := blk_frozen BK389.out 1; have hfz22_2 := blk_frozen BK389.out 2; have hfz22_3 := blk_frozen BK389.out 3; have hfz22_4 := blk_frozen BK389.out 4; have hcz23_0 : w20.cell? ⟨gb387, 0, none⟩ = some (.int .i64 ((rd_T25 l0 x17_1).f0)) := (blk_cell BK387.out 0).trans rfl; have hcz23_1 : w20.cell? ⟨gb387, 1, none⟩ = some (.string ((rd_T25 l0 x17_1).f1)) := (blk_cell BK387.out 1).trans rfl; have hcz23_2 : w20.cell? ⟨gb387, 2, none⟩ = some (.string ((rd_T25 l0 x17_1).f2)) := (blk_cell BK387.out 2).trans rfl; have hcz23_3 : w20.cell? ⟨gb387, 3, none⟩ = some (.string ((rd_T25 l0 x17_1).f3)) := (blk_cell BK387.out 3).trans rfl; have hcz23_4 : w20.cell? ⟨gb387, 4, none⟩ = some (.slice A386_4 ((rd_T25 l0 x17_1).f4).length c386_4) := (blk_cell BK387.out 4).trans rfl; have hfz23_0 := blk_frozen BK387.out 0; have hfz23_1 := blk_frozen BK387.out 1; have hfz23_2 := blk_frozen BK387.out 2; have hfz23_3 := blk_frozen BK387.out 3; have hfz23_4 := blk_frozen BK387.out 4) | ((with_reducible refine gate_calleeT rfl ?_); refine goesLT_ (some 29) rfl rfl Try.func46 (by kernel_rfl) rfl #[.agg #[.int .i64 ((rd_T25 l0 x17_1).f0), .string ((rd_T25 l0 x17_1).f1), .string ((rd_T25 l0 x17_1).f2), .string ((rd_T25 l0 x17_1).f3), .slice A386_4 ((rd_T25 l0 x17_1).f4).length c386_4], .agg #[.int .i64 ((rd_T25 l1 x17_1).f0), .string ((rd_T25 l1 x17_1).f1), .string ((rd_T25 l1 x17_1).f2), .string ((rd_T25 l1 x17_1).f3), .slice A388_4 ((rd_T25 l1 x17_1).f4).length c388_4]] rfl (by (try simp only [List.map_toArray, List.map_cons, List.map_nil]); first | done | rfl | (simp only [List.length_drop, List.length_take]; rfl)) ?_; (with_reducible refine (tree_Same_1.calls k1 ((rd_T25 l0 x17_1).f0) ((rd_T25 l0 x17_1).f1) ((rd_T25 l0 x17_1).f2) ((rd_T25 l0 x17_1).f3) _ _ ((rd_T25 l0 x17_1).f4) ((rd_T25 l1 x17_1).f0) ((rd_T25 l1 x17_1).f1) ((rd_T25 l1 x17_1).f2) ((rd_T25 l1 x17_1).f3) _ _ ((rd_T25 l1 x17_1).f4) false _ ?side1 ?side2 ?side3 ?side4 A9.out).mono ?_); (case side1 => exact Kd.C_below HR386_4.out (by repeat (first | (with_reducible first | exact HB.out | apply below_alloc | apply pw_below_drewN | apply below_drew1 | refine below_set ?_ GE387.out | refine below_set ?_ GE389.out) | exact HB.out))); (case side2 => exact HC386_4.out); (case side3 => exact Kd.C_below HR388_4.out (by repeat (first | (with_reducible first | exact HB.out | apply below_alloc | apply pw_below_drewN | apply below_drew1 | refine below_set ?_ GE387.out | refine below_set ?_ GE389.out) | exact HB.out))); (case side4 => exact HC388_4.out); rintro e w24 ⟨rfl, hb⟩; refine ⟨_, rfl, ?_⟩; have n0_ := Aside0.mk (blk_below (g := gb387) (o := .cells #[.int .i64 ((rd_T25 l0 x17_1).f0), .string ((rd_T25 l0 x17_1).f1), .string ((rd_T25 l0 x17_1).f2), .string ((rd_T25 l0 x17_1).f3), .slice A386_4 ((rd_T25 l0 x17_1).f4).length c386_4] 25 (0, 0)) (by (with_reducible repeat (first | refine blk_drewN ?_ _ | refine blk_drew ?_ | refine blk_alloc ?_ _)); refine blk_far ?_ NB387_389.out _; (with_reducible repeat (first | refine blk_drewN ?_ _ | refine blk_drew ?_ | refine blk_alloc ?_ _)); refine blk_far ?_ NB387_389.out _; (with_reducible repeat (first | refine blk_drewN ?_ _ | refine blk_drew ?_ | refine blk_alloc ?_ _)); refine blk_far ?_ NB387_389.out _; (with_reducible repeat (first | refine blk_drewN ?_ _ | refine blk_drew ?_ | refine blk_alloc ?_ _)); refine blk_far ?_ NB387_389.out _; (with_reducible repeat (first | refine blk_drewN ?_ _ | refine blk_drew ?_ | refine blk_alloc ?_ _)); refine blk_far ?_ NB387_389.out _; (with_reducible repeat (first | refine blk_drewN ?_ _ | refine blk_drew ?_ | refine blk_alloc ?_ _)); exact BK387.out) hb); have n1_ := Aside0.mk (blk_below (g := gb389) (o := .cells #[.int .i64 ((rd_T25 l1 x17_1).f0), .string ((rd_T25 l1 x17_1).f1), .string ((rd_T25 l1 x17_1).f2), .string ((rd_T25 l1 x17_1).f3), .slice A388_4 ((rd_T25 l1 x17_1).f4).length c388_4] 25 (0, 0)) (by (with_reducible repeat (first | refine blk_drewN ?_ _ | refine blk_drew ?_ | refine blk_alloc ?_ _)); refine blk_put (cs := #[.int .i64 ((rd_T25 l1 x17_1).f0), .string ((rd_T25 l1 x17_1).f1), .string ((rd_T25 l1 x17_1).f2), .string ((rd_T25 l1 x17_1).f3), .slice none 0 0]) ?_ 4 _ rfl; (with_reducible repeat (first | refine blk_drewN ?_ _ | refine blk_drew ?_ | refine blk_alloc ?_ _)); refine blk_put (cs := #[.int .i64 ((rd_T25 l1 x17_1).f0), .string ((rd_T25 l1 x17_1).f1), .string ((rd_T25 l1 x17_1).f2), .string (⟨#[]⟩ : ByteArray), .slice none 0 0]) ?_ 3 _ rfl; (with_reducible repeat (first | refine blk_drewN ?_ _ | refine blk_drew ?_ | refine blk_alloc ?_ _)); refine blk_put (cs := #[.int .i64 ((rd_T25 l1 x17_1).f0), .string ((rd_T25 l1 x17_1).f1), .string (⟨#[]⟩ : ByteArray), .string (⟨#[]⟩ : ByteArray), .slice none 0 0]) ?_ 2 _ rfl; (with_reducible repeat (first | refine blk_drewN ?_ _ | refine blk_drew ?_ | refine blk_alloc ?_ _)); refine blk_put (cs := #[.int .i64 ((rd_T25 l1 x17_1).f0), .string (⟨#[]⟩ : ByteArray), .string (⟨#[]⟩ : ByteArray), .string (⟨#[]⟩ : ByteArray), .slice none 0 0]) ?_ 1 _ rfl; (with_reducible repeat (first | refine blk_drewN ?_ _ | refine blk_drew ?_ | refine blk_alloc ?_ _)); refine blk_put (cs := #[.int .i64 0, .string (⟨#[]⟩ : ByteArray), .string (⟨#[]⟩ : ByteArray), .string (⟨#[]⟩ : ByteArray), .slice none 0 0]) ?_ 0 _ rfl; (with_reducible repeat (first | refine blk_drewN ?_ _ | refine blk_drew ?_ | refine blk_alloc ?_ _)); exact BK389.out) hb); have n2_ := Aside0.mk (below_step (by repeat (first | (with_reducible first | exact HB.out | apply below_alloc | apply pw_below_drewN | apply below_drew1 | refine below_set ?_ GE387.out | refine below_set ?_ GE389.out) | exact HB.out)) hb); clear BK387; clear BK389; clear HB; have BK387 := n0_; have BK389 := n1_; have HB := n2_; clear n0_ n1_ n2_; (try clear hb); (try clear hb2); (try clear hk); (try clear hi)))
                  go_ret
                  exact ⟨by first | rfl | (simp [errW_none, errW_some] <;> rfl) | (simp [*, errW_none, errW_some] <;> rfl), by repeat (first | (with_reducible first | exact HB.out | apply below_alloc | apply pw_below_drewN | apply below_drew1 | refine below_set ?_ GE387.out | refine below_set ?_ GE389.out) | exact HB.out)⟩
              · rw [if_neg c8] at H
                exact absurd H (by simp)
            · rw [if_neg c7] at H
              exact absurd H (by simp)
          · rw [if_neg c6] at H
            exact absurd H (by simp)
        · rw [if_neg c5] at H
          have c5b0 : decide (x17_1 < (l0.length : Int)) = false := decide_eq_false c5
          clear c5
          obtain rfl := Option.some.inj H
          go_wp2
          go_ret
          exact ⟨by first | rfl | (simp [errW_none, errW_some] <;> rfl) | (simp [*, errW_none, errW_some] <;> rfl), by repeat (first | (with_reducible first | exact HB.out | apply below_alloc | apply pw_below_drewN | apply below_drew1) | exact HB.out)⟩
  · rw [if_neg c4] at H
    have c4b0 : ((l0.length : Int) == (l1.length : Int)) = false := beq_eq_false_iff_ne.mpr c4
    have c4b1 : ((l0.length : Int) != (l1.length : Int)) = true := bne_iff_ne.mpr c4
    have c4b2 : (l0.length == l1.length) = false := by first | simpa using c4 | (simp at c4 ⊢; omega)
    obtain rfl := Option.some.inj H
    go_enter Try.func45, Try.ntmps45
    go_wp2
    go_ret
    exact ⟨by first | rfl | (simp [errW_none, errW_some] <;> rfl) | (simp [*, errW_none, errW_some] <;> rfl), by repeat (first | (with_reducible first | exact HB.out | apply below_alloc | apply pw_below_drewN | apply below_drew1) | exact HB.out)⟩
def tree_Same.f (k : Nat) (l0 : List (S25)) (l1 : List (S25)) : Option (Bool) := (api_Node_45.f k l0 l1).bind fun t391 => (some t391)
theorem tree_Same.mono : ∀ a0 a1 k, LeO (tree_Same.f k a0 a1) (tree_Same.f (k + 1) a0 a1) := by
  intro a0 a1 k
  unfold tree_Same.f
  repeat' first
      | (with_reducible exact api_Node_45.mono _ _ _)
      | (with_reducible exact LeO.refl _)
      | (with_reducible exact LeO.none _)
      | (with_reducible refine LeO.ite ?_ ?_)
      | (with_reducible refine LeO.bind ?_ (fun _ => ?_))
      | exact api_Node_45.mono _ _ _
      | exact LeO.none _
      | refine LeO.ite ?_ ?_
      | refine LeO.bind ?_ (fun _ => ?_)
set_option maxHeartbeats 8000000 in
set_option maxRecDepth 100000 in
theorem tree_Same.calls (k : Nat) (A0 : Option Addr) (c0 : Nat) (l0 : List (S25)) (A1 : Option Addr) (c1 : Nat) (l1 : List (S25)) (r : Bool) (w : World) (hr0 : Kd.C k25 w A0 l0.length l0) (hc0 : l0.length ≤ c0) (hr1 : Kd.C k25 w A1 l1.length l1) (hc1 : l1.length ≤ c1) (h : tree_Same.f k l0 l1 = some r) :
    Calls Try.prog 30 #[.slice A0 l0.length c0, .slice A1 l1.length c1] w fun e w' => e = .returned (.bool r) ∧ Below w.heap.size w w' := by
  have HR0 := Aside0.mk hr0
  have HC0 := Aside0.mk hc0
  clear hr0 hc0
  have HR1 := Aside0.mk hr1
  have HC1 := Aside0.mk hc1
  clear hr1 hc1
  have HB := Aside0.mk (Below.refl w.heap.size w)
  have H : ((api_Node_45.f k l0 l1).bind fun t391 => (some t391)) = some r := h
  clear h
  replace H := Option.bind_eq_some_iff.mp H
  obtain ⟨t391, A30, H⟩ := H
  replace H : (some t391) = some r := H
  have A3 := Aside0.mk A30
  clear A30
  obtain rfl := Option.some.inj H
  go_enter Try.func30, Try.ntmps30
  go_wp2_with (first | ((with_reducible refine gate_callee (f := 45) rfl ?_); refine goesL_ (some 7) rfl rfl Try.func45 (by kernel_rfl) rfl #[.slice A0 l0.length c0, .slice A1 l1.length c1, .func (.func 46) #[] #[]] rfl (by (try simp only [List.map_toArray, List.map_cons, List.map_nil]); first | done | rfl | (simp only [List.length_drop, List.length_take]; rfl)) ?_; (with_reducible refine (api_Node_45.calls k _ _ l0 _ _ l1  t391 _ ?side1 ?side2 ?side3 ?side4 A3.out).mono ?_); (case side1 => repeat (first | exact HR0.out | (with_reducible refine Kd.C_alloc ?_ _) | (with_reducible refine Kd.C_drewN ?_ _) | (with_reducible refine Kd.C_drew ?_))); (case side2 => exact HC0.out); (case side3 => repeat (first | exact HR1.out | (with_reducible refine Kd.C_alloc ?_ _) | (with_reducible refine Kd.C_drewN ?_ _) | (with_reducible refine Kd.C_drew ?_))); (case side4 => exact HC1.out); rintro e w4 ⟨rfl, hb⟩; refine ⟨_, rfl, ?_⟩; have n0_ := Aside0.mk (below_step (by repeat (first | (with_reducible first | exact HB.out | apply below_alloc | apply pw_below_drewN | apply below_drew1) | exact HB.out)) hb); clear HB; have HB := n0_; clear n0_; (try clear hb); (try clear hb2); (try clear hk); (try clear hi)))
  go_ret
  exact ⟨by first | rfl | (simp [errW_none, errW_some] <;> rfl) | (simp [*, errW_none, errW_some] <;> rfl), by repeat (first | (with_reducible first | exact HB.out | apply below_alloc | apply pw_below_drewN | apply below_drew1) | exact HB.out)⟩
end Go.Proofs.Ytdelccahgchadaa.P
end
section
namespace Go.Proofs.Ytdelccahgchadaa.P
open Go.RowKit Go.Proofs.YtdelccahgchadaaW.PrintWords Go.Proofs.YtdelccahgchadaaW.PrintLast Go.Proofs.YtdelccahgchadaaW.PrintMore
attribute [local go_sem] max2_int min2_int max_two min_two max_three min_three max_four min_four   
set_option linter.unusedVariables false
set_option linter.unusedSimpArgs false
mutual
def reredosref08_Same.l0 : Nat → List (S25) → List (S25) → Int → Option (Bool)
  | 0, _, _, _ => none
  | k + 1, x0, x1, x5 => if x5 < (x0.length : Int) then (if 0 ≤ x5 then (if x5 < (x1.length : Int) then (if ((rd_T25 x0 x5).f0) = ((rd_T25 x1 x5).f0) then (if ((rd_T25 x0 x5).f1).toList = ((rd_T25 x1 x5).f1).toList then (if ((rd_T25 x0 x5).f2).toList = ((rd_T25 x1 x5).f2).toList then (if ((rd_T25 x0 x5).f3).toList = ((rd_T25 x1 x5).f3).toList then (reredosref08_Same.j1 k x0 x1 x5 ((((rd_T25 x0 x5).f4).length : Int) != (((rd_T25 x1 x5).f4).length : Int))) else (reredosref08_Same.j1 k x0 x1 x5 true)) else (reredosref08_Same.j1 k x0 x1 x5 true)) else (reredosref08_Same.j1 k x0 x1 x5 true)) else (reredosref08_Same.j1 k x0 x1 x5 true)) else (none)) else (none)) else (some true)
def reredosref08_Same.j1 : Nat → List (S25) → List (S25) → Int → Bool → Option (Bool)
  | 0, _, _, _, _ => none
  | k + 1, x0, x1, x5, x82 => if x82 = true then (some false) else (reredosref08_Same.l1 k x0 x1 x5 0)
def reredosref08_Same.l1 : Nat → List (S25) → List (S25) → Int → Int → Option (Bool)
  | 0, _, _, _, _ => none
  | k + 1, x0, x1, x5, x6 => if 0 ≤ x5 then (if x5 < (x0.length : Int) then (if x6 < (((rd_T25 x0 x5).f4).length : Int) then (if 0 ≤ x6 then (if x5 < (x1.length : Int) then (if x6 < (((rd_T25 x1 x5).f4).length : Int) then (if (rdOf ByteArray.empty ((rd_T25 x0 x5).f4) x6).toList = (rdOf ByteArray.empty ((rd_T25 x1 x5).f4) x6).toList then (reredosref08_Same.l1 k x0 x1 x5 (wrap64 (x6 + 1))) else (some false)) else (none)) else (none)) else (none)) else (reredosref08_Same.l0 k x0 x1 (wrap64 (x5 + 1)))) else (none)) else (none)
end
def reredosref08_Same.f (k : Nat) (l0 : List (S25)) (l1 : List (S25)) : Option (Bool) := if (l0.length : Int) = (l1.length : Int) then (reredosref08_Same.l0 k l0 l1 0) else (some false)
theorem reredosref08_Same.mono_l : ∀ k, (∀ y0 y1 y2, LeO (reredosref08_Same.l0 k y0 y1 y2) (reredosref08_Same.l0 (k + 1) y0 y1 y2)) ∧ (∀ y0 y1 y2 y3, LeO (reredosref08_Same.j1 k y0 y1 y2 y3) (reredosref08_Same.j1 (k + 1) y0 y1 y2 y3)) ∧ (∀ y0 y1 y2 y3, LeO (reredosref08_Same.l1 k y0 y1 y2 y3) (reredosref08_Same.l1 (k + 1) y0 y1 y2 y3))
  | 0 => ⟨fun _ _ _ r h => by simp [reredosref08_Same.l0] at h, fun _ _ _ _ r h => by simp [reredosref08_Same.j1] at h, fun _ _ _ _ r h => by simp [reredosref08_Same.l1] at h⟩
  | k + 1 => by
    obtain ⟨ih0, ih1, ih2⟩ := reredosref08_Same.mono_l k
    refine ⟨?_, ?_, ?_⟩
    · intro y0 y1 y2
      unfold reredosref08_Same.l0
      repeat' first
      | (with_reducible exact ih0 _ _ _)
      | (with_reducible exact ih1 _ _ _ _)
      | (with_reducible exact ih2 _ _ _ _)
      | (with_reducible exact LeO.refl _)
      | (with_reducible exact LeO.none _)
      | (with_reducible refine LeO.ite ?_ ?_)
      | (with_reducible refine LeO.bind ?_ (fun _ => ?_))
      | exact ih0 _ _ _
      | exact ih1 _ _ _ _
      | exact ih2 _ _ _ _
      | exact LeO.none _
      | refine LeO.ite ?_ ?_
      | refine LeO.bind ?_ (fun _ => ?_)
    · intro y0 y1 y2 y3
      unfold reredosref08_Same.j1
      repeat' first
      | (with_reducible exact ih0 _ _ _)
      | (with_reducible exact ih1 _ _ _ _)
      | (with_reducible exact ih2 _ _ _ _)
      | (with_reducible exact LeO.refl _)
      | (with_reducible exact LeO.none _)
      | (with_reducible refine LeO.ite ?_ ?_)
      | (with_reducible refine LeO.bind ?_ (fun _ => ?_))
      | exact ih0 _ _ _
      | exact ih1 _ _ _ _
      | exact ih2 _ _ _ _
      | exact LeO.none _
      | refine LeO.ite ?_ ?_
      | refine LeO.bind ?_ (fun _ => ?_)
    · intro y0 y1 y2 y3
      unfold reredosref08_Same.l1
      repeat' first
      | (with_reducible exact ih0 _ _ _)
      | (with_reducible exact ih1 _ _ _ _)
      | (with_reducible exact ih2 _ _ _ _)
      | (with_reducible exact LeO.refl _)
      | (with_reducible exact LeO.none _)
      | (with_reducible refine LeO.ite ?_ ?_)
      | (with_reducible refine LeO.bind ?_ (fun _ => ?_))
      | exact ih0 _ _ _
      | exact ih1 _ _ _ _
      | exact ih2 _ _ _ _
      | exact LeO.none _
      | refine LeO.ite ?_ ?_
      | refine LeO.bind ?_ (fun _ => ?_)
theorem reredosref08_Same.mono : ∀ a0 a1 k, LeO (reredosref08_Same.f k a0 a1) (reredosref08_Same.f (k + 1) a0 a1) := by
  intro a0 a1 k
  obtain ⟨ih0, ih1, ih2⟩ := reredosref08_Same.mono_l k
  unfold reredosref08_Same.f
  repeat' first
      | (with_reducible exact ih0 _ _ _)
      | (with_reducible exact ih1 _ _ _ _)
      | (with_reducible exact ih2 _ _ _ _)
      | (with_reducible exact LeO.refl _)
      | (with_reducible exact LeO.none _)
      | (with_reducible refine LeO.ite ?_ ?_)
      | (with_reducible refine LeO.bind ?_ (fun _ => ?_))
      | exact ih0 _ _ _
      | exact ih1 _ _ _ _
      | exact ih2 _ _ _ _
      | exact LeO.none _
      | refine LeO.ite ?_ ?_
      | refine LeO.bind ?_ (fun _ => ?_)
set_option maxHeartbeats 8000000 in
set_option maxRecDepth 100000 in
theorem reredosref08_Same.calls (k : Nat) (A0 : Option Addr) (c0 : Nat) (l0 : List (S25)) (A1 : Option Addr) (c1 : Nat) (l1 : List (S25)) (r : Bool) (w : World) (hr0 : Kd.C k25 w A0 l0.length l0) (hc0 : l0.length ≤ c0) (hr1 : Kd.C k25 w A1 l1.length l1) (hc1 : l1.length ≤ c1) (h : reredosref08_Same.f k l0 l1 = some r) :
    Calls Try.prog 31 #[.slice A0 l0.length c0, .slice A1 l1.length c1] w fun e w' => e = .returned (.bool r) ∧ Drawn0 w w' := by
  have HR0 := Aside0.mk hr0
  have HC0 := Aside0.mk hc0
  clear hr0 hc0
  have HR1 := Aside0.mk hr1
  have HC1 := Aside0.mk hc1
  clear hr1 hc1
  have H : (if (l0.length : Int) = (l1.length : Int) then (reredosref08_Same.l0 k l0 l1 0) else (some false)) = some r := h
  clear h
  by_cases c3 : (l0.length : Int) = (l1.length : Int)
  · rw [if_pos c3] at H
    have c3b0 : ((l0.length : Int) == (l1.length : Int)) = true := beq_iff_eq.mpr c3
    have c3b1 : ((l0.length : Int) != (l1.length : Int)) = false := bne_eq_false_iff_eq.mpr c3
    have c3b2 : (l0.length == l1.length) = true := by first | simpa using c3 | (simp at c3 ⊢; omega)
    clear c3
    have H' := Aside0.mk H
    clear H
    go_enter Try.func31, Try.ntmps31
    go_wp2
    (try simp only [List.append_eq, List.cons_append, List.nil_append])
    repeat (go_quiet (fail); try go_wp2)
    go_loopg [5] k (fun kq v5 w' => ∃ (x5_1 : Int), v5 = .int .i64 x5_1 ∧ Aside0 (reredosref08_Same.l0 kq l0 l1 x5_1 = some r) ∧ Aside0 (kq ≤ k) ∧ Drawn0 w w')
    case atStart => exact ⟨(0), (by first | rfl | (simp; done) | (simp [*]; done)), H', ⟨Nat.le_refl _⟩, by repeat (first | exact Drawn0.refl _ | apply Drawn0.step)⟩
    case round =>
      clear H'
      try clear c1
      try clear p2
      try clear c3
      try clear c3b0
      try clear c3b1
      try clear c3b2
      obtain ⟨x5_1, rfl, HA, HK1, ⟨m1, rfl⟩⟩ := hrel
      cases gk with
      | zero => exact absurd HA.out (by simp [reredosref08_Same.l0])
      | succ k1 =>
        have H := HA.out
        clear HA
        simp only [reredosref08_Same.l0] at H
        by_cases c4 : x5_1 < (l0.length : Int)
        · rw [if_pos c4] at H
          have c4b0 : decide (x5_1 < (l0.length : Int)) = true := decide_eq_true c4
          clear c4
          have HC5 := Aside0.mk H
          clear H
          go_upto_region 6 with (fail)
          (try simp only [List.append_eq, List.cons_append, List.nil_append])
          repeat (go_quiet (fail); go_upto_region 6 with (fail))
          go_cut [82] (fun v82 wc => ∃ (kq : Nat) (x82_4 : Bool), v82 = .bool x82_4 ∧ Aside0 (reredosref08_Same.j1 kq l0 l1 x5_1 x82_4 = some r) ∧ Aside0 (kq ≤ k1) ∧ Drawn0 w wc)
          case first =>
            have H := HC5.out
            clear HC5
            by_cases c6 : 0 ≤ x5_1
            · rw [if_pos c6] at H
              have c6b0 : decide (0 ≤ x5_1) = true := decide_eq_true c6
              clear c6
              (first | rw [c6b0] | (simp only [i64_w, i32_w]; rw [c6b0]) | skip)
              by_cases c7 : x5_1 < (l1.length : Int)
              · rw [if_pos c7] at H
                have c7b0 : decide (x5_1 < (l1.length : Int)) = true := decide_eq_true c7
                clear c7
                by_cases c8 : ((rd_T25 l0 x5_1).f0) = ((rd_T25 l1 x5_1).f0)
                · rw [if_pos c8] at H
                  have c8b0 : (((rd_T25 l0 x5_1).f0) == ((rd_T25 l1 x5_1).f0)) = true := beq_iff_eq.mpr c8
                  have c8b1 : (((rd_T25 l0 x5_1).f0) != ((rd_T25 l1 x5_1).f0)) = false := bne_eq_false_iff_eq.mpr c8
                  clear c8
                  by_cases c9 : ((rd_T25 l0 x5_1).f1).toList = ((rd_T25 l1 x5_1).f1).toList
                  · rw [if_pos c9] at H
                    have c9b0 : (((rd_T25 l0 x5_1).f1).toList == ((rd_T25 l1 x5_1).f1).toList) = true := beq_iff_eq.mpr c9
                    have c9b1 : (((rd_T25 l0 x5_1).f1).toList != ((rd_T25 l1 x5_1).f1).toList) = false := bne_eq_false_iff_eq.mpr c9
                    clear c9
                    by_cases c10 : ((rd_T25 l0 x5_1).f2).toList = ((rd_T25 l1 x5_1).f2).toList
                    · rw [if_pos c10] at H
                      have c10b0 : (((rd_T25 l0 x5_1).f2).toList == ((rd_T25 l1 x5_1).f2).toList) = true := beq_iff_eq.mpr c10
                      have c10b1 : (((rd_T25 l0 x5_1).f2).toList != ((rd_T25 l1 x5_1).f2).toList) = false := bne_eq_false_iff_eq.mpr c10
                      clear c10
                      by_cases c11 : ((rd_T25 l0 x5_1).f3).toList = ((rd_T25 l1 x5_1).f3).toList
                      · rw [if_pos c11] at H
                        have c11b0 : (((rd_T25 l0 x5_1).f3).toList == ((rd_T25 l1 x5_1).f3).toList) = true := beq_iff_eq.mpr c11
                        have c11b1 : (((rd_T25 l0 x5_1).f3).toList != ((rd_T25 l1 x5_1).f3).toList) = false := bne_eq_false_iff_eq.mpr c11
                        clear c11
                        have H' := Aside0.mk H
                        clear H
                        have p392 : 0 ≤ (x5_1 : Int) := of_decide_eq_true (by first | (with_reducible assumption) | assumption)
                        have q392 : x5_1 < (l0.length : Int) := of_decide_eq_true (by first | (with_reducible assumption) | assumption)
                        obtain ⟨ad392, A392_4, c392_4, e392, hx392_0, hx392_1, hx392_2, hx392_3, hx392_4, hl392_4, hi392_4⟩ := at_T25 HR0.out x5_1 p392 q392
                        cases e392
                        have HR392_4 := Aside0.mk hi392_4
                        have HC392_4 := Aside0.mk hl392_4
                        clear hi392_4 hl392_4
                        replace p392 := eq_true p392
                        replace q392 := eq_true q392
                        have p393 : 0 ≤ (x5_1 : Int) := of_decide_eq_true (by first | (with_reducible assumption) | assumption)
                        have q393 : x5_1 < (l1.length : Int) := of_decide_eq_true (by first | (with_reducible assumption) | assumption)
                        obtain ⟨ad393, A393_4, c393_4, e393, hx393_0, hx393_1, hx393_2, hx393_3, hx393_4, hl393_4, hi393_4⟩ := at_T25 HR1.out x5_1 p393 q393
                        cases e393
                        have HR393_4 := Aside0.mk hi393_4
                        have HC393_4 := Aside0.mk hl393_4
                        clear hi393_4 hl393_4
                        replace p393 := eq_true p393
                        replace q393 := eq_true q393
                        go_wp2
                        (try simp only [List.append_eq, List.cons_append, List.nil_append])
                        repeat (go_quiet (fail); try go_wp2)
                        go_meet
                        case rel => exact ⟨_, (((((rd_T25 l0 x5_1).f4).length : Int) != (((rd_T25 l1 x5_1).f4).length : Int))), (by first | rfl | (simp; done) | (simp [*]; done)), H', ⟨by have := HK1.out; first | omega | exact Nat.le_refl _⟩, by repeat (first | exact Drawn0.refl _ | apply Drawn0.step)⟩
                      · rw [if_neg c11] at H
                        have c11b0 : (((rd_T25 l0 x5_1).f3).toList == ((rd_T25 l1 x5_1).f3).toList) = false := beq_eq_false_iff_ne.mpr c11
                        have c11b1 : (((rd_T25 l0 x5_1).f3).toList != ((rd_T25 l1 x5_1).f3).toList) = true := bne_iff_ne.mpr c11
                        have H' := Aside0.mk H
                        clear H
                        have p392 : 0 ≤ (x5_1 : Int) := of_decide_eq_true (by first | (with_reducible assumption) | assumption)
                        have q392 : x5_1 < (l0.length : Int) := of_decide_eq_true (by first | (with_reducible assumption) | assumption)
                        obtain ⟨ad392, A392_4, c392_4, e392, hx392_0, hx392_1, hx392_2, hx392_3, hx392_4, hl392_4, hi392_4⟩ := at_T25 HR0.out x5_1 p392 q392
                        cases e392
                        have HR392_4 := Aside0.mk hi392_4
                        have HC392_4 := Aside0.mk hl392_4
                        clear hi392_4 hl392_4
                        replace p392 := eq_true p392
                        replace q392 := eq_true q392
                        have p393 : 0 ≤ (x5_1 : Int) := of_decide_eq_true (by first | (with_reducible assumption) | assumption)
                        have q393 : x5_1 < (l1.length : Int) := of_decide_eq_true (by first | (with_reducible assumption) | assumption)
                        obtain ⟨ad393, A393_4, c393_4, e393, hx393_0, hx393_1, hx393_2, hx393_3, hx393_4, hl393_4, hi393_4⟩ := at_T25 HR1.out x5_1 p393 q393
                        cases e393
                        have HR393_4 := Aside0.mk hi393_4
                        have HC393_4 := Aside0.mk hl393_4
                        clear hi393_4 hl393_4
                        replace p393 := eq_true p393
                        replace q393 := eq_true q393
                        go_wp2
                        (try simp only [List.append_eq, List.cons_append, List.nil_append])
                        repeat (go_quiet (fail); try go_wp2)
                        go_meet
                        case rel => exact ⟨_, (true), (by first | rfl | (simp; done) | (simp [*]; done)), H', ⟨by have := HK1.out; first | omega | exact Nat.le_refl _⟩, by repeat (first | exact Drawn0.refl _ | apply Drawn0.step)⟩
                    · rw [if_neg c10] at H
                      have c10b0 : (((rd_T25 l0 x5_1).f2).toList == ((rd_T25 l1 x5_1).f2).toList) = false := beq_eq_false_iff_ne.mpr c10
                      have c10b1 : (((rd_T25 l0 x5_1).f2).toList != ((rd_T25 l1 x5_1).f2).toList) = true := bne_iff_ne.mpr c10
                      have H' := Aside0.mk H
                      clear H
                      have p392 : 0 ≤ (x5_1 : Int) := of_decide_eq_true (by first | (with_reducible assumption) | assumption)
                      have q392 : x5_1 < (l0.length : Int) := of_decide_eq_true (by first | (with_reducible assumption) | assumption)
                      obtain ⟨ad392, A392_4, c392_4, e392, hx392_0, hx392_1, hx392_2, hx392_3, hx392_4, hl392_4, hi392_4⟩ := at_T25 HR0.out x5_1 p392 q392
                      cases e392
                      have HR392_4 := Aside0.mk hi392_4
                      have HC392_4 := Aside0.mk hl392_4
                      clear hi392_4 hl392_4
                      replace p392 := eq_true p392
                      replace q392 := eq_true q392
                      have p393 : 0 ≤ (x5_1 : Int) := of_decide_eq_true (by first | (with_reducible assumption) | assumption)
                      have q393 : x5_1 < (l1.length : Int) := of_decide_eq_true (by first | (with_reducible assumption) | assumption)
                      obtain ⟨ad393, A393_4, c393_4, e393, hx393_0, hx393_1, hx393_2, hx393_3, hx393_4, hl393_4, hi393_4⟩ := at_T25 HR1.out x5_1 p393 q393
                      cases e393
                      have HR393_4 := Aside0.mk hi393_4
                      have HC393_4 := Aside0.mk hl393_4
                      clear hi393_4 hl393_4
                      replace p393 := eq_true p393
                      replace q393 := eq_true q393
                      go_wp2
                      (try simp only [List.append_eq, List.cons_append, List.nil_append])
                      repeat (go_quiet (fail); try go_wp2)
                      go_meet
                      case rel => exact ⟨_, (true), (by first | rfl | (simp; done) | (simp [*]; done)), H', ⟨by have := HK1.out; first | omega | exact Nat.le_refl _⟩, by repeat (first | exact Drawn0.refl _ | apply Drawn0.step)⟩
                  · rw [if_neg c9] at H
                    have c9b0 : (((rd_T25 l0 x5_1).f1).toList == ((rd_T25 l1 x5_1).f1).toList) = false := beq_eq_false_iff_ne.mpr c9
                    have c9b1 : (((rd_T25 l0 x5_1).f1).toList != ((rd_T25 l1 x5_1).f1).toList) = true := bne_iff_ne.mpr c9
                    have H' := Aside0.mk H
                    clear H
                    have p392 : 0 ≤ (x5_1 : Int) := of_decide_eq_true (by first | (with_reducible assumption) | assumption)
                    have q392 : x5_1 < (l0.length : Int) := of_decide_eq_true (by first | (with_reducible assumption) | assumption)
                    obtain ⟨ad392, A392_4, c392_4, e392, hx392_0, hx392_1, hx392_2, hx392_3, hx392_4, hl392_4, hi392_4⟩ := at_T25 HR0.out x5_1 p392 q392
                    cases e392
                    have HR392_4 := Aside0.mk hi392_4
                    have HC392_4 := Aside0.mk hl392_4
                    clear hi392_4 hl392_4
                    replace p392 := eq_true p392
                    replace q392 := eq_true q392
                    have p393 : 0 ≤ (x5_1 : Int) := of_decide_eq_true (by first | (with_reducible assumption) | assumption)
                    have q393 : x5_1 < (l1.length : Int) := of_decide_eq_true (by first | (with_reducible assumption) | assumption)
                    obtain ⟨ad393, A393_4, c393_4, e393, hx393_0, hx393_1, hx393_2, hx393_3, hx393_4, hl393_4, hi393_4⟩ := at_T25 HR1.out x5_1 p393 q393
                    cases e393
                    have HR393_4 := Aside0.mk hi393_4
                    have HC393_4 := Aside0.mk hl393_4
                    clear hi393_4 hl393_4
                    replace p393 := eq_true p393
                    replace q393 := eq_true q393
                    go_wp2
                    (try simp only [List.append_eq, List.cons_append, List.nil_append])
                    repeat (go_quiet (fail); try go_wp2)
                    go_meet
                    case rel => exact ⟨_, (true), (by first | rfl | (simp; done) | (simp [*]; done)), H', ⟨by have := HK1.out; first | omega | exact Nat.le_refl _⟩, by repeat (first | exact Drawn0.refl _ | apply Drawn0.step)⟩
                · rw [if_neg c8] at H
                  have c8b0 : (((rd_T25 l0 x5_1).f0) == ((rd_T25 l1 x5_1).f0)) = false := beq_eq_false_iff_ne.mpr c8
                  have c8b1 : (((rd_T25 l0 x5_1).f0) != ((rd_T25 l1 x5_1).f0)) = true := bne_iff_ne.mpr c8
                  have H' := Aside0.mk H
                  clear H
                  have p392 : 0 ≤ (x5_1 : Int) := of_decide_eq_true (by first | (with_reducible assumption) | assumption)
                  have q392 : x5_1 < (l0.length : Int) := of_decide_eq_true (by first | (with_reducible assumption) | assumption)
                  obtain ⟨ad392, A392_4, c392_4, e392, hx392_0, hx392_1, hx392_2, hx392_3, hx392_4, hl392_4, hi392_4⟩ := at_T25 HR0.out x5_1 p392 q392
                  cases e392
                  have HR392_4 := Aside0.mk hi392_4
                  have HC392_4 := Aside0.mk hl392_4
                  clear hi392_4 hl392_4
                  replace p392 := eq_true p392
                  replace q392 := eq_true q392
                  have p393 : 0 ≤ (x5_1 : Int) := of_decide_eq_true (by first | (with_reducible assumption) | assumption)
                  have q393 : x5_1 < (l1.length : Int) := of_decide_eq_true (by first | (with_reducible assumption) | assumption)
                  obtain ⟨ad393, A393_4, c393_4, e393, hx393_0, hx393_1, hx393_2, hx393_3, hx393_4, hl393_4, hi393_4⟩ := at_T25 HR1.out x5_1 p393 q393
                  cases e393
                  have HR393_4 := Aside0.mk hi393_4
                  have HC393_4 := Aside0.mk hl393_4
                  clear hi393_4 hl393_4
                  replace p393 := eq_true p393
                  replace q393 := eq_true q393
                  go_wp2
                  (try simp only [List.append_eq, List.cons_append, List.nil_append])
                  repeat (go_quiet (fail); try go_wp2)
                  go_meet
                  case rel => exact ⟨_, (true), (by first | rfl | (simp; done) | (simp [*]; done)), H', ⟨by have := HK1.out; first | omega | exact Nat.le_refl _⟩, by repeat (first | exact Drawn0.refl _ | apply Drawn0.step)⟩
              · rw [if_neg c7] at H
                exact absurd H (by simp)
            · rw [if_neg c6] at H
              exact absurd H (by simp)
          case rest =>
            clear HC5
            try clear c1
            try clear p2
            try clear c3
            try clear c3b0
            try clear c3b1
            try clear c3b2
            try clear p3
            try clear q3
            try clear hx3
            try clear c4
            try clear c4b0
            try clear p4
            try clear q4
            try clear hx4
            try clear c6
            try clear c6b0
            try clear c7
            try clear c7b0
            try clear c8
            try clear c8b0
            try clear c8b1
            try clear c9
            try clear c9b0
            try clear c9b1
            try clear c10
            try clear c10b0
            try clear c10b1
            try clear c11
            try clear c11b0
            try clear c11b1
            try clear hx392_0
            try clear hx392_1
            try clear hx392_2
            try clear hx392_3
            try clear hx392_4
            try clear hx393_0
            try clear hx393_1
            try clear hx393_2
            try clear hx393_3
            try clear hx393_4
            try clear hx394_0
            try clear hx394_1
            try clear hx394_2
            try clear hx394_3
            try clear hx394_4
            try clear hx395_0
            try clear hx395_1
            try clear hx395_2
            try clear hx395_3
            try clear hx395_4
            try clear hx396_0
            try clear hx396_1
            try clear hx396_2
            try clear hx396_3
            try clear hx396_4
            try clear hx397_0
            try clear hx397_1
            try clear hx397_2
            try clear hx397_3
            try clear hx397_4
            try clear hx398_0
            try clear hx398_1
            try clear hx398_2
            try clear hx398_3
            try clear hx398_4
            try clear hx399_0
            try clear hx399_1
            try clear hx399_2
            try clear hx399_3
            try clear hx399_4
            try clear hx400_0
            try clear hx400_1
            try clear hx400_2
            try clear hx400_3
            try clear hx400_4
            try clear hx401_0
            try clear hx401_1
            try clear hx401_2
            try clear hx401_3
            try clear hx401_4
            try clear p2
            try clear p392
            try clear p393
            try clear p394
            try clear p395
            try clear p396
            try clear p397
            try clear p398
            try clear p399
            try clear p400
            try clear p401
            try clear q392
            try clear q393
            try clear q394
            try clear q395
            try clear q396
            try clear q397
            try clear q398
            try clear q399
            try clear q400
            try clear q401
            obtain ⟨kq, x82_4, rfl, HA, HJ4, ⟨mc4, rfl⟩⟩ := hcut
            cases kq with
            | zero => exact absurd HA.out (by simp [reredosref08_Same.j1])
            | succ kj4 =>
              have H := HA.out
              clear HA
              simp only [reredosref08_Same.j1] at H
              by_cases c12 : x82_4 = true
              · subst c12
                have H1 : (some false) = some r := by rw [if_pos rfl] at H; exact H
                clear H
                have H := H1
                clear H1
                obtain rfl := Option.some.inj H
                go_wp2
                (try simp only [List.append_eq, List.cons_append, List.nil_append])
                repeat (go_quiet (fail); try go_wp2)
                go_ret
                exact ⟨by first | rfl | (simp; done) | (simp [*]; done), by repeat (first | exact Drawn0.refl _ | apply Drawn0.step)⟩
              · replace c12 := Bool.eq_false_iff.mpr c12
                subst c12
                have H1 : (reredosref08_Same.l1 kj4 l0 l1 x5_1 0) = some r := by rw [if_neg (show ¬ (false = true) by decide)] at H; exact H
                clear H
                have H := H1
                clear H1
                have H' := Aside0.mk H
                clear H
                go_wp2
                (try simp only [List.append_eq, List.cons_append, List.nil_append])
                repeat (go_quiet (fail); try go_wp2)
                go_loopg [6] kj4 (fun kq v6 w' => ∃ (x6_3 : Int), v6 = .int .i64 x6_3 ∧ Aside0 (reredosref08_Same.l1 kq l0 l1 x5_1 x6_3 = some r) ∧ Aside0 (kq ≤ kj4) ∧ Drawn0 w w')
                case atStart => exact ⟨(0), (by first | rfl | (simp; done) | (simp [*]; done)), H', ⟨Nat.le_refl _⟩, by repeat (first | exact Drawn0.refl _ | apply Drawn0.step)⟩
                case round =>
                  clear H'
                  try clear c1
                  try clear p2
                  try clear c3
                  try clear c3b0
                  try clear c3b1
                  try clear c3b2
                  try clear p3
                  try clear q3
                  try clear hx3
                  try clear c4
                  try clear c4b0
                  try clear p4
                  try clear q4
                  try clear hx4
                  try clear c6
                  try clear c6b0
                  try clear c7
                  try clear c7b0
                  try clear c8
                  try clear c8b0
                  try clear c8b1
                  try clear c9
                  try clear c9b0
                  try clear c9b1
                  try clear c10
                  try clear c10b0
                  try clear c10b1
                  try clear c11
                  try clear c11b0
                  try clear c11b1
                  try clear c12
                  try clear hx392_0
                  try clear hx392_1
                  try clear hx392_2
                  try clear hx392_3
                  try clear hx392_4
                  try clear hx393_0
                  try clear hx393_1
                  try clear hx393_2
                  try clear hx393_3
                  try clear hx393_4
                  try clear hx394_0
                  try clear hx394_1
                  try clear hx394_2
                  try clear hx394_3
                  try clear hx394_4
                  try clear hx395_0
                  try clear hx395_1
                  try clear hx395_2
                  try clear hx395_3
                  try clear hx395_4
                  try clear hx396_0
                  try clear hx396_1
                  try clear hx396_2
                  try clear hx396_3
                  try clear hx396_4
                  try clear hx397_0
                  try clear hx397_1
                  try clear hx397_2
                  try clear hx397_3
                  try clear hx397_4
                  try clear hx398_0
                  try clear hx398_1
                  try clear hx398_2
                  try clear hx398_3
                  try clear hx398_4
                  try clear hx399_0
                  try clear hx399_1
                  try clear hx399_2
                  try clear hx399_3
                  try clear hx399_4
                  try clear hx400_0
                  try clear hx400_1
                  try clear hx400_2
                  try clear hx400_3
                  try clear hx400_4
                  try clear hx401_0
                  try clear hx401_1
                  try clear hx401_2
                  try clear hx401_3
                  try clear hx401_4
                  try clear p2
                  try clear p3
                  try clear p392
                  try clear p393
                  try clear p394
                  try clear p395
                  try clear p396
                  try clear p397
                  try clear p398
                  try clear p399
                  try clear p4
                  try clear p400
                  try clear p401
                  try clear q3
                  try clear q392
                  try clear q393
                  try clear q394
                  try clear q395
                  try clear q396
                  try clear q397
                  try clear q398
                  try clear q399
                  try clear q4
                  try clear q400
                  try clear q401
                  obtain ⟨x6_3, rfl, HA, HK3, ⟨m3, rfl⟩⟩ := hrel
                  cases gk with
                  | zero => exact absurd HA.out (by simp [reredosref08_Same.l1])
                  | succ k3 =>
                    have H := HA.out
                    clear HA
                    simp only [reredosref08_Same.l1] at H
                    by_cases c13 : 0 ≤ x5_1
                    · rw [if_pos c13] at H
                      have c13b0 : decide (0 ≤ x5_1) = true := decide_eq_true c13
                      clear c13
                      by_cases c14 : x5_1 < (l0.length : Int)
                      · rw [if_pos c14] at H
                        have c14b0 : decide (x5_1 < (l0.length : Int)) = true := decide_eq_true c14
                        clear c14
                        by_cases c15 : x6_3 < (((rd_T25 l0 x5_1).f4).length : Int)
                        · rw [if_pos c15] at H
                          have c15b0 : decide (x6_3 < (((rd_T25 l0 x5_1).f4).length : Int)) = true := decide_eq_true c15
                          clear c15
                          by_cases c16 : 0 ≤ x6_3
                          · rw [if_pos c16] at H
                            have c16b0 : decide (0 ≤ x6_3) = true := decide_eq_true c16
                            clear c16
                            by_cases c17 : x5_1 < (l1.length : Int)
                            · rw [if_pos c17] at H
                              have c17b0 : decide (x5_1 < (l1.length : Int)) = true := decide_eq_true c17
                              clear c17
                              by_cases c18 : x6_3 < (((rd_T25 l1 x5_1).f4).length : Int)
                              · rw [if_pos c18] at H
                                have c18b0 : decide (x6_3 < (((rd_T25 l1 x5_1).f4).length : Int)) = true := decide_eq_true c18
                                clear c18
                                by_cases c19 : (rdOf ByteArray.empty ((rd_T25 l0 x5_1).f4) x6_3).toList = (rdOf ByteArray.empty ((rd_T25 l1 x5_1).f4) x6_3).toList
                                · rw [if_pos c19] at H
                                  have c19b0 : ((rdOf ByteArray.empty ((rd_T25 l0 x5_1).f4) x6_3).toList == (rdOf ByteArray.empty ((rd_T25 l1 x5_1).f4) x6_3).toList) = true := beq_iff_eq.mpr c19
                                  have c19b1 : ((rdOf ByteArray.empty ((rd_T25 l0 x5_1).f4) x6_3).toList != (rdOf ByteArray.empty ((rd_T25 l1 x5_1).f4) x6_3).toList) = false := bne_eq_false_iff_eq.mpr c19
                                  clear c19
                                  have H' := Aside0.mk H
                                  clear H
                                  have p402 : 0 ≤ (x5_1 : Int) := of_decide_eq_true (by first | (with_reducible assumption) | assumption)
                                  have q402 : x5_1 < (l0.length : Int) := of_decide_eq_true (by first | (with_reducible assumption) | assumption)
                                  obtain ⟨ad402, A402_4, c402_4, e402, hx402_0, hx402_1, hx402_2, hx402_3, hx402_4, hl402_4, hi402_4⟩ := at_T25 HR0.out x5_1 p402 q402
                                  cases e402
                                  have HR402_4 := Aside0.mk hi402_4
                                  have HC402_4 := Aside0.mk hl402_4
                                  clear hi402_4 hl402_4
                                  replace p402 := eq_true p402
                                  replace q402 := eq_true q402
                                  have p404 : 0 ≤ (x6_3 : Int) := of_decide_eq_true (by first | (with_reducible assumption) | assumption)
                                  have q404 : x6_3 < (((rd_T25 l0 x5_1).f4).length : Int) := of_decide_eq_true (by first | (with_reducible assumption) | assumption)
                                  obtain ⟨ad404, e404, hx404_0⟩ := Kd.at_string HR402_4.out x6_3 p404 q404
                                  cases e404
                                  replace p404 := eq_true p404
                                  replace q404 := eq_true q404
                                  have p405 : 0 ≤ (x5_1 : Int) := of_decide_eq_true (by first | (with_reducible assumption) | assumption)
                                  have q405 : x5_1 < (l1.length : Int) := of_decide_eq_true (by first | (with_reducible assumption) | assumption)
                                  obtain ⟨ad405, A405_4, c405_4, e405, hx405_0, hx405_1, hx405_2, hx405_3, hx405_4, hl405_4, hi405_4⟩ := at_T25 HR1.out x5_1 p405 q405
                                  cases e405
                                  have HR405_4 := Aside0.mk hi405_4
                                  have HC405_4 := Aside0.mk hl405_4
                                  clear hi405_4 hl405_4
                                  replace p405 := eq_true p405
                                  replace q405 := eq_true q405
                                  have p406 : 0 ≤ (x6_3 : Int) := of_decide_eq_true (by first | (with_reducible assumption) | assumption)
                                  have q406 : x6_3 < (((rd_T25 l1 x5_1).f4).length : Int) := of_decide_eq_true (by first | (with_reducible assumption) | assumption)
                                  obtain ⟨ad406, e406, hx406_0⟩ := Kd.at_string HR405_4.out x6_3 p406 q406
                                  cases e406
                                  replace p406 := eq_true p406
                                  replace q406 := eq_true q406
                                  go_wp2
                                  (try simp only [List.append_eq, List.cons_append, List.nil_append])
                                  repeat (go_quiet (fail); try go_wp2)
                                  go_roundg k3
                                  case measure => have := HK1.out; have := HJ4.out; have := HK3.out; omega
                                  case rel => exact ⟨(wrap64 (x6_3 + 1)), (by first | rfl | (simp; done) | (simp [*]; done)), H', ⟨by have := HK1.out; have := HJ4.out; have := HK3.out; omega⟩, by repeat (first | exact Drawn0.refl _ | apply Drawn0.step)⟩
                                · rw [if_neg c19] at H
                                  have c19b0 : ((rdOf ByteArray.empty ((rd_T25 l0 x5_1).f4) x6_3).toList == (rdOf ByteArray.empty ((rd_T25 l1 x5_1).f4) x6_3).toList) = false := beq_eq_false_iff_ne.mpr c19
                                  have c19b1 : ((rdOf ByteArray.empty ((rd_T25 l0 x5_1).f4) x6_3).toList != (rdOf ByteArray.empty ((rd_T25 l1 x5_1).f4) x6_3).toList) = true := bne_iff_ne.mpr c19
                                  obtain rfl := Option.some.inj H
                                  have p402 : 0 ≤ (x5_1 : Int) := of_decide_eq_true (by first | (with_reducible assumption) | assumption)
                                  have q402 : x5_1 < (l0.length : Int) := of_decide_eq_true (by first | (with_reducible assumption) | assumption)
                                  obtain ⟨ad402, A402_4, c402_4, e402, hx402_0, hx402_1, hx402_2, hx402_3, hx402_4, hl402_4, hi402_4⟩ := at_T25 HR0.out x5_1 p402 q402
                                  cases e402
                                  have HR402_4 := Aside0.mk hi402_4
                                  have HC402_4 := Aside0.mk hl402_4
                                  clear hi402_4 hl402_4
                                  replace p402 := eq_true p402
                                  replace q402 := eq_true q402
                                  have p404 : 0 ≤ (x6_3 : Int) := of_decide_eq_true (by first | (with_reducible assumption) | assumption)
                                  have q404 : x6_3 < (((rd_T25 l0 x5_1).f4).length : Int) := of_decide_eq_true (by first | (with_reducible assumption) | assumption)
                                  obtain ⟨ad404, e404, hx404_0⟩ := Kd.at_string HR402_4.out x6_3 p404 q404
                                  cases e404
                                  replace p404 := eq_true p404
                                  replace q404 := eq_true q404
                                  have p405 : 0 ≤ (x5_1 : Int) := of_decide_eq_true (by first | (with_reducible assumption) | assumption)
                                  have q405 : x5_1 < (l1.length : Int) := of_decide_eq_true (by first | (with_reducible assumption) | assumption)
                                  obtain ⟨ad405, A405_4, c405_4, e405, hx405_0, hx405_1, hx405_2, hx405_3, hx405_4, hl405_4, hi405_4⟩ := at_T25 HR1.out x5_1 p405 q405
                                  cases e405
                                  have HR405_4 := Aside0.mk hi405_4
                                  have HC405_4 := Aside0.mk hl405_4
                                  clear hi405_4 hl405_4
                                  replace p405 := eq_true p405
                                  replace q405 := eq_true q405
                                  have p406 : 0 ≤ (x6_3 : Int) := of_decide_eq_true (by first | (with_reducible assumption) | assumption)
                                  have q406 : x6_3 < (((rd_T25 l1 x5_1).f4).length : Int) := of_decide_eq_true (by first | (with_reducible assumption) | assumption)
                                  obtain ⟨ad406, e406, hx406_0⟩ := Kd.at_string HR405_4.out x6_3 p406 q406
                                  cases e406
                                  replace p406 := eq_true p406
                                  replace q406 := eq_true q406
                                  go_wp2
                                  (try simp only [List.append_eq, List.cons_append, List.nil_append])
                                  repeat (go_quiet (fail); try go_wp2)
                                  go_ret
                                  exact ⟨by first | rfl | (simp; done) | (simp [*]; done), by repeat (first | exact Drawn0.refl _ | apply Drawn0.step)⟩
                              · rw [if_neg c18] at H
                                exact absurd H (by simp)
                            · rw [if_neg c17] at H
                              exact absurd H (by simp)
                          · rw [if_neg c16] at H
                            exact absurd H (by simp)
                        · rw [if_neg c15] at H
                          have c15b0 : decide (x6_3 < (((rd_T25 l0 x5_1).f4).length : Int)) = false := decide_eq_false c15
                          clear c15
                          have H' := Aside0.mk H
                          clear H
                          have p402 : 0 ≤ (x5_1 : Int) := of_decide_eq_true (by first | (with_reducible assumption) | assumption)
                          have q402 : x5_1 < (l0.length : Int) := of_decide_eq_true (by first | (with_reducible assumption) | assumption)
                          obtain ⟨ad402, A402_4, c402_4, e402, hx402_0, hx402_1, hx402_2, hx402_3, hx402_4, hl402_4, hi402_4⟩ := at_T25 HR0.out x5_1 p402 q402
                          cases e402
                          have HR402_4 := Aside0.mk hi402_4
                          have HC402_4 := Aside0.mk hl402_4
                          clear hi402_4 hl402_4
                          replace p402 := eq_true p402
                          replace q402 := eq_true q402
                          go_wp2
                          (try simp only [List.append_eq, List.cons_append, List.nil_append])
                          repeat (go_quiet (fail); try go_wp2)
                          go_roundg k3
                          case measure => have := HK1.out; have := HJ4.out; have := HK3.out; omega
                          case rel => exact ⟨(wrap64 (x5_1 + 1)), (by first | rfl | (simp; done) | (simp [*]; done)), H', ⟨by have := HK1.out; have := HJ4.out; have := HK3.out; omega⟩, by repeat (first | exact Drawn0.refl _ | apply Drawn0.step)⟩
                      · rw [if_neg c14] at H
                        exact absurd H (by simp)
                    · rw [if_neg c13] at H
                      exact absurd H (by simp)
        · rw [if_neg c4] at H
          have c4b0 : decide (x5_1 < (l0.length : Int)) = false := decide_eq_false c4
          clear c4
          obtain rfl := Option.some.inj H
          go_wp2
          (try simp only [List.append_eq, List.cons_append, List.nil_append])
          repeat (go_quiet (fail); try go_wp2)
          go_ret
          exact ⟨by first | rfl | (simp; done) | (simp [*]; done), by repeat (first | exact Drawn0.refl _ | apply Drawn0.step)⟩
  · rw [if_neg c3] at H
    have c3b0 : ((l0.length : Int) == (l1.length : Int)) = false := beq_eq_false_iff_ne.mpr c3
    have c3b1 : ((l0.length : Int) != (l1.length : Int)) = true := bne_iff_ne.mpr c3
    have c3b2 : (l0.length == l1.length) = false := by first | simpa using c3 | (simp at c3 ⊢; omega)
    obtain rfl := Option.some.inj H
    go_enter Try.func31, Try.ntmps31
    go_wp2
    (try simp only [List.append_eq, List.cons_append, List.nil_append])
    repeat (go_quiet (fail); try go_wp2)
    go_ret
    exact ⟨by first | rfl | (simp; done) | (simp [*]; done), by repeat (first | exact Drawn0.refl _ | apply Drawn0.step)⟩
end Go.Proofs.Ytdelccahgchadaa.P
end
