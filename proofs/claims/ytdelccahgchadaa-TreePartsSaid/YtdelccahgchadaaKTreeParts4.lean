/- What the law TreeParts rests on, part 5. -/
import Derived.Test.YtdelccahgchadaaKTreeParts3
import Derived.ProofKit
import Derived.OpenShut
import Derived.ShutString
import Derived.ChangeOld
import Derived.SizedLaws
import Derived.ChangeSlices
import Derived.Deep.Slices
import Derived.Lib.IndexBytes
set_option linter.unusedVariables false
set_option linter.unusedSimpArgs false
section
namespace Go.Proofs.Ytdelccahgchadaa.P
open Go.RowKit Go.Proofs.YtdelccahgchadaaW.PrintWords Go.Proofs.YtdelccahgchadaaW.PrintLast Go.Proofs.YtdelccahgchadaaW.PrintMore
attribute [local go_sem] max2_int min2_int max_two min_two max_three min_three max_four min_four   
set_option linter.unusedVariables false
set_option linter.unusedSimpArgs false
def tree_Same_1.f (k : Nat) (a0_0 : Int) (a0_1 : ByteArray) (a0_2 : ByteArray) (a0_3 : ByteArray) (l0_4 : List ByteArray) (a1_0 : Int) (a1_1 : ByteArray) (a1_2 : ByteArray) (a1_3 : ByteArray) (l1_4 : List ByteArray) : Option (Bool) := if a0_0 = a1_0 then (if a0_1.toList = a1_1.toList then (if a0_2.toList = a1_2.toList then (if a0_3.toList = a1_3.toList then ((slices_Equal_string_string.f k l0_4 l1_4).bind fun t385 => (some t385)) else (some false)) else (some false)) else (some false)) else (some false)
theorem tree_Same_1.mono : ∀ a0 a1 a2 a3 a4 a5 a6 a7 a8 a9 k, LeO (tree_Same_1.f k a0 a1 a2 a3 a4 a5 a6 a7 a8 a9) (tree_Same_1.f (k + 1) a0 a1 a2 a3 a4 a5 a6 a7 a8 a9) := by
  intro a0 a1 a2 a3 a4 a5 a6 a7 a8 a9 k
  unfold tree_Same_1.f
  repeat' first
      | (with_reducible exact slices_Equal_string_string.mono _ _ _)
      | (with_reducible exact LeO.refl _)
      | (with_reducible exact LeO.none _)
      | (with_reducible refine LeO.ite ?_ ?_)
      | (with_reducible refine LeO.bind ?_ (fun _ => ?_))
      | exact slices_Equal_string_string.mono _ _ _
      | exact LeO.none _
      | refine LeO.ite ?_ ?_
      | refine LeO.bind ?_ (fun _ => ?_)
set_option maxHeartbeats 8000000 in
set_option maxRecDepth 100000 in
theorem tree_Same_1.calls (k : Nat) (a0_0 : Int) (a0_1 : ByteArray) (a0_2 : ByteArray) (a0_3 : ByteArray) (A0_4 : Option Addr) (c0_4 : Nat) (l0_4 : List ByteArray) (a1_0 : Int) (a1_1 : ByteArray) (a1_2 : ByteArray) (a1_3 : ByteArray) (A1_4 : Option Addr) (c1_4 : Nat) (l1_4 : List ByteArray) (r : Bool) (w : World) (hr0_4 : Kd.C Kd.string w A0_4 l0_4.length l0_4) (hc0_4 : l0_4.length ≤ c0_4) (hr1_4 : Kd.C Kd.string w A1_4 l1_4.length l1_4) (hc1_4 : l1_4.length ≤ c1_4) (h : tree_Same_1.f k a0_0 a0_1 a0_2 a0_3 l0_4 a1_0 a1_1 a1_2 a1_3 l1_4 = some r) :
    Calls Try.prog 46 #[.agg #[.int .i64 a0_0, .string a0_1, .string a0_2, .string a0_3, .slice A0_4 l0_4.length c0_4], .agg #[.int .i64 a1_0, .string a1_1, .string a1_2, .string a1_3, .slice A1_4 l1_4.length c1_4]] w fun e w' => e = .returned (.bool r) ∧ Below w.heap.size w w' := by
  have hu25 := Try.underlying25
  have HR0_4 := Aside0.mk hr0_4
  have HC0_4 := Aside0.mk hc0_4
  clear hr0_4 hc0_4
  have HR1_4 := Aside0.mk hr1_4
  have HC1_4 := Aside0.mk hc1_4
  clear hr1_4 hc1_4
  have HB := Aside0.mk (Below.refl w.heap.size w)
  have H : (if a0_0 = a1_0 then (if a0_1.toList = a1_1.toList then (if a0_2.toList = a1_2.toList then (if a0_3.toList = a1_3.toList then ((slices_Equal_string_string.f k l0_4 l1_4).bind fun t385 => (some t385)) else (some false)) else (some false)) else (some false)) else (some false)) = some r := h
  clear h
  by_cases c3 : a0_0 = a1_0
  · rw [if_pos c3] at H
    have c3b0 : (a0_0 == a1_0) = true := beq_iff_eq.mpr c3
    have c3b1 : (a0_0 != a1_0) = false := bne_eq_false_iff_eq.mpr c3
    clear c3
    by_cases c4 : a0_1.toList = a1_1.toList
    · rw [if_pos c4] at H
      have c4b0 : (a0_1.toList == a1_1.toList) = true := beq_iff_eq.mpr c4
      have c4b1 : (a0_1.toList != a1_1.toList) = false := bne_eq_false_iff_eq.mpr c4
      clear c4
      by_cases c5 : a0_2.toList = a1_2.toList
      · rw [if_pos c5] at H
        have c5b0 : (a0_2.toList == a1_2.toList) = true := beq_iff_eq.mpr c5
        have c5b1 : (a0_2.toList != a1_2.toList) = false := bne_eq_false_iff_eq.mpr c5
        clear c5
        by_cases c6 : a0_3.toList = a1_3.toList
        · rw [if_pos c6] at H
          have c6b0 : (a0_3.toList == a1_3.toList) = true := beq_iff_eq.mpr c6
          have c6b1 : (a0_3.toList != a1_3.toList) = false := bne_eq_false_iff_eq.mpr c6
          clear c6
          replace H := Option.bind_eq_some_iff.mp H
          obtain ⟨t385, A70, H⟩ := H
          replace H : (some t385) = some r := H
          have A7 := Aside0.mk A70
          clear A70
          obtain rfl := Option.some.inj H
          go_enter Try.func46, Try.ntmps46
          go_wp2_with (first | ((with_reducible refine gate_dst (N := 2) rfl ?_); refine box_event ?hg (N := 2) ?hd (cs := #[.int .i64 a0_0, .string a0_1, .string a0_2, .string a0_3, .slice A0_4 l0_4.length c0_4]) (t := 25) ?hr ?_; (case hd => rfl); (case hg => rfl); (case hr => first | (go_simp; done) | (go_simp; rfl)); intro gb383 hg w8 hbox hb; have n0_ := Aside0.mk (below_step (by repeat (first | (with_reducible first | exact HB.out | apply below_alloc | apply pw_below_drewN | apply below_drew1) | exact HB.out)) hb); have n1_ := Aside0.mk (hbox); have n2_ := Aside0.mk ((by rw [hg]; exact (below_size (by repeat (first | (with_reducible first | exact HB.out | apply below_alloc | apply pw_below_drewN | apply below_drew1) | exact HB.out))) : w.heap.size ≤ gb383)); have n3_ := Aside0.mk ((by rw [hg]; exact (below_size (by repeat (first | (with_reducible first | exact HB.out | apply below_alloc | apply pw_below_drewN | apply below_drew1) | exact HB.out))) : w.heap.size ≤ gb383)); clear HB; have HB := n0_; have BK383 := n1_; have GW383 := n2_; have GE383 := n3_; clear n0_ n1_ n2_ n3_; clear hb hbox hg) | ((with_reducible refine gate_dst (N := 3) rfl ?_); refine box_event ?hg (N := 3) ?hd (cs := #[.int .i64 a1_0, .string a1_1, .string a1_2, .string a1_3, .slice A1_4 l1_4.length c1_4]) (t := 25) ?hr ?_; (case hd => rfl); (case hg => rfl); (case hr => first | (go_simp; done) | (go_simp; rfl)); intro gb384 hg w9 hbox hb; have n0_ := Aside0.mk (blk_below (g := gb383) (o := .cells #[.int .i64 a0_0, .string a0_1, .string a0_2, .string a0_3, .slice A0_4 l0_4.length c0_4] 25 (0, 0)) (by (with_reducible repeat (first | refine blk_drewN ?_ _ | refine blk_drew ?_ | refine blk_alloc ?_ _)); exact BK383.out) hb); have n1_ := Aside0.mk (below_step (by repeat (first | (with_reducible first | exact HB.out | apply below_alloc | apply pw_below_drewN | apply below_drew1 | refine below_set ?_ GE383.out) | exact HB.out)) hb); have n2_ := Aside0.mk (hbox); have n3_ := Aside0.mk ((by rw [hg]; exact (below_size (by repeat (first | (with_reducible first | exact HB.out | apply below_alloc | apply pw_below_drewN | apply below_drew1 | refine below_set ?_ GE383.out) | exact HB.out))) : w.heap.size ≤ gb384)); have n4_ := Aside0.mk ((by rw [hg]; exact (below_size (by repeat (first | (with_reducible first | exact HB.out | apply below_alloc | apply pw_below_drewN | apply below_drew1 | refine below_set ?_ GE383.out) | exact HB.out))) : w.heap.size ≤ gb384)); have n5_ := Aside0.mk ((by rw [hg]; exact Nat.ne_of_lt (blk_lt (g := gb383) (o := .cells #[.int .i64 a0_0, .string a0_1, .string a0_2, .string a0_3, .slice A0_4 l0_4.length c0_4] 25 (0, 0)) (by (with_reducible repeat (first | refine blk_drewN ?_ _ | refine blk_drew ?_ | refine blk_alloc ?_ _)); exact BK383.out)) : gb383 ≠ gb384)); have n6_ := Aside0.mk ((by rw [hg]; exact Nat.ne_of_gt (blk_lt (g := gb383) (o := .cells #[.int .i64 a0_0, .string a0_1, .string a0_2, .string a0_3, .slice A0_4 l0_4.length c0_4] 25 (0, 0)) (by (with_reducible repeat (first | refine blk_drewN ?_ _ | refine blk_drew ?_ | refine blk_alloc ?_ _)); exact BK383.out)) : gb384 ≠ gb383)); clear BK383; clear HB; have BK383 := n0_; have HB := n1_; have BK384 := n2_; have GW384 := n3_; have GE384 := n4_; have NB383_384 := n5_; have NB384_383 := n6_; clear n0_ n1_ n2_ n3_ n4_ n5_ n6_; clear hb hbox hg; have hnb10 := NB383_384.out; have hnc10 := NB384_383.out; have hcz11_0 : w9.cell? ⟨gb383, 0, none⟩ = some (.int .i64 a0_0) := (blk_cell BK383.out 0).trans rfl; have hcz11_1 : w9.cell? ⟨gb383, 1, none⟩ = some (.string a0_1) := (blk_cell BK383.out 1).trans rfl; have hcz11_2 : w9.cell? ⟨gb383, 2, none⟩ = some (.string a0_2) := (blk_cell BK383.out 2).trans rfl; have hcz11_3 : w9.cell? ⟨gb383, 3, none⟩ = some (.string a0_3) := (blk_cell BK383.out 3).trans rfl; have hcz11_4 : w9.cell? ⟨gb383, 4, none⟩ = some (.slice A0_4 l0_4.length c0_4) := (blk_cell BK383.out 4).trans rfl; have hfz11_0 := blk_frozen BK383.out 0; have hfz11_1 := blk_frozen BK383.out 1; have hfz11_2 := blk_frozen BK383.out 2; have hfz11_3 := blk_frozen BK383.out 3; have hfz11_4 := blk_frozen BK383.out 4; have hcz12_0 : w9.cell? ⟨gb384, 0, none⟩ = some (.int .i64 a1_0) := (blk_cell BK384.out 0).trans rfl; have hcz12_1 : w9.cell? ⟨gb384, 1, none⟩ = some (.string a1_1) := (blk_cell BK384.out 1).trans rfl; have hcz12_2 : w9.cell? ⟨gb384, 2, none⟩ = some (.string a1_2) := (blk_cell BK384.out 2).trans rfl; have hcz12_3 : w9.cell? ⟨gb384, 3, none⟩ = some (.string a1_3) := (blk_cell BK384.out 3).trans rfl; have hcz12_4 : w9.cell? ⟨gb384, 4, none⟩ = some (.slice A1_4 l1_4.length c1_4) := (blk_cell BK384.out 4).trans rfl; have hfz12_0 := blk_frozen BK384.out 0; have hfz12_1 := blk_frozen BK384.out 1; have hfz12_2 := blk_frozen BK384.out 2; have hfz12_3 := blk_frozen BK384.out 3; have hfz12_4 := blk_frozen BK384.out 4) | (go_at_call 47; (with_reducible refine (slices_Equal_string_string.calls k _ _ l0_4 _ _ l1_4 t385 _ ?side1 ?side2 ?side3 ?side4 A7.out).mono ?_); (case side1 => repeat (first | exact (Kd.C_below HR0_4.out HB.out) | (with_reducible refine Kd.C_alloc ?_ _) | (with_reducible refine Kd.C_drewN ?_ _) | (with_reducible refine Kd.C_drew ?_))); (case side2 => exact HC0_4.out); (case side3 => repeat (first | exact (Kd.C_below HR1_4.out HB.out) | (with_reducible refine Kd.C_alloc ?_ _) | (with_reducible refine Kd.C_drewN ?_ _) | (with_reducible refine Kd.C_drew ?_))); (case side4 => exact HC1_4.out); rintro e w' ⟨rfl, ⟨nd, rfl⟩⟩))
          go_ret
          exact ⟨by first | rfl | (simp [errW_none, errW_some] <;> rfl) | (simp [*, errW_none, errW_some] <;> rfl), by repeat (first | (with_reducible first | exact HB.out | apply below_alloc | apply pw_below_drewN | apply below_drew1 | refine below_set ?_ GE383.out | refine below_set ?_ GE384.out) | exact HB.out)⟩
        · rw [if_neg c6] at H
          have c6b0 : (a0_3.toList == a1_3.toList) = false := beq_eq_false_iff_ne.mpr c6
          have c6b1 : (a0_3.toList != a1_3.toList) = true := bne_iff_ne.mpr c6
          obtain rfl := Option.some.inj H
          go_enter Try.func46, Try.ntmps46
          go_wp2_with (first | ((with_reducible refine gate_dst (N := 2) rfl ?_); refine box_event ?hg (N := 2) ?hd (cs := #[.int .i64 a0_0, .string a0_1, .string a0_2, .string a0_3, .slice A0_4 l0_4.length c0_4]) (t := 25) ?hr ?_; (case hd => rfl); (case hg => rfl); (case hr => first | (go_simp; done) | (go_simp; rfl)); intro gb383 hg w13 hbox hb; have n0_ := Aside0.mk (below_step (by repeat (first | (with_reducible first | exact HB.out | apply below_alloc | apply pw_below_drewN | apply below_drew1) | exact HB.out)) hb); have n1_ := Aside0.mk (hbox); have n2_ := Aside0.mk ((by rw [hg]; exact (below_size (by repeat (first | (with_reducible first | exact HB.out | apply below_alloc | apply pw_below_drewN | apply below_drew1) | exact HB.out))) : w.heap.size ≤ gb383)); have n3_ := Aside0.mk ((by rw [hg]; exact (below_size (by repeat (first | (with_reducible first | exact HB.out | apply below_alloc | apply pw_below_drewN | apply below_drew1) | exact HB.out))) : w.heap.size ≤ gb383)); clear HB; have HB := n0_; have BK383 := n1_; have GW383 := n2_; have GE383 := n3_; clear n0_ n1_ n2_ n3_; clear hb hbox hg) | ((with_reducible refine gate_dst (N := 3) rfl ?_); refine box_event ?hg (N := 3) ?hd (cs := #[.int .i64 a1_0, .string a1_1, .string a1_2, .string a1_3, .slice A1_4 l1_4.length c1_4]) (t := 25) ?hr ?_; (case hd => rfl); (case hg => rfl); (case hr => first | (go_simp; done) | (go_simp; rfl)); intro gb384 hg w14 hbox hb; have n0_ := Aside0.mk (blk_below (g := gb383) (o := .cells #[.int .i64 a0_0, .string a0_1, .string a0_2, .string a0_3, .slice A0_4 l0_4.length c0_4] 25 (0, 0)) (by (with_reducible repeat (first | refine blk_drewN ?_ _ | refine blk_drew ?_ | refine blk_alloc ?_ _)); exact BK383.out) hb); have n1_ := Aside0.mk (below_step (by repeat (first | (with_reducible first | exact HB.out | apply below_alloc | apply pw_below_drewN | apply below_drew1 | refine below_set ?_ GE383.out) | exact HB.out)) hb); have n2_ := Aside0.mk (hbox); have n3_ := Aside0.mk ((by rw [hg]; exact (below_size (by repeat (first | (with_reducible first | exact HB.out | apply below_alloc | apply pw_below_drewN | apply below_drew1 | refine below_set ?_ GE383.out) | exact HB.out))) : w.heap.size ≤ gb384)); have n4_ := Aside0.mk ((by rw [hg]; exact (below_size (by repeat (first | (with_reducible first | exact HB.out | apply below_alloc | apply pw_below_drewN | apply below_drew1 | refine below_set ?_ GE383.out) | exact HB.out))) : w.heap.size ≤ gb384)); have n5_ := Aside0.mk ((by rw [hg]; exact Nat.ne_of_lt (blk_lt (g := gb383) (o := .cells #[.int .i64 a0_0, .string a0_1, .string a0_2, .string a0_3, .slice A0_4 l0_4.length c0_4] 25 (0, 0)) (by (with_reducible repeat (first | refine blk_drewN ?_ _ | refine blk_drew ?_ | refine blk_alloc ?_ _)); exact BK383.out)) : gb383 ≠ gb384)); have n6_ := Aside0.mk ((by rw [hg]; exact Nat.ne_of_gt (blk_lt (g := gb383) (o := .cells #[.int .i64 a0_0, .string a0_1, .string a0_2, .string a0_3, .slice A0_4 l0_4.length c0_4] 25 (0, 0)) (by (with_reducible repeat (first | refine blk_drewN ?_ _ | refine blk_drew ?_ | refine blk_alloc ?_ _)); exact BK383.out)) : gb384 ≠ gb383)); clear BK383; clear HB; have BK383 := n0_; have HB := n1_; have BK384 := n2_; have GW384 := n3_; have GE384 := n4_; have NB383_384 := n5_; have NB384_383 := n6_; clear n0_ n1_ n2_ n3_ n4_ n5_ n6_; clear hb hbox hg; have hnb15 := NB383_384.out; have hnc15 := NB384_383.out; have hcz16_0 : w14.cell? ⟨gb383, 0, none⟩ = some (.int .i64 a0_0) := (blk_cell BK383.out 0).trans rfl; have hcz16_1 : w14.cell? ⟨gb383, 1, none⟩ = some (.string a0_1) := (blk_cell BK383.out 1).trans rfl; have hcz16_2 : w14.cell? ⟨gb383, 2, none⟩ = some (.string a0_2) := (blk_cell BK383.out 2).trans rfl; have hcz16_3 : w14.cell? ⟨gb383, 3, none⟩ = some (.string a0_3) := (blk_cell BK383.out 3).trans rfl; have hcz16_4 : w14.cell? ⟨gb383, 4, none⟩ = some (.slice A0_4 l0_4.length c0_4) := (blk_cell BK383.out 4).trans rfl; have hfz16_0 := blk_frozen BK383.out 0; have hfz16_1 := blk_frozen BK383.out 1; have hfz16_2 := blk_frozen BK383.out 2; have hfz16_3 := blk_frozen BK383.out 3; have hfz16_4 := blk_frozen BK383.out 4; have hcz17_0 : w14.cell? ⟨gb384, 0, none⟩ = some (.int .i64 a1_0) := (blk_cell BK384.out 0).trans rfl; have hcz17_1 : w14.cell? ⟨gb384, 1, none⟩ = some (.string a1_1) := (blk_cell BK384.out 1).trans rfl; have hcz17_2 : w14.cell? ⟨gb384, 2, none⟩ = some (.string a1_2) := (blk_cell BK384.out 2).trans rfl; have hcz17_3 : w14.cell? ⟨gb384, 3, none⟩ = some (.string a1_3) := (blk_cell BK384.out 3).trans rfl; have hcz17_4 : w14.cell? ⟨gb384, 4, none⟩ = some (.slice A1_4 l1_4.length c1_4) := (blk_cell BK384.out 4).trans rfl; have hfz17_0 := blk_frozen BK384.out 0; have hfz17_1 := blk_frozen BK384.out 1; have hfz17_2 := blk_frozen BK384.out 2; have hfz17_3 := blk_frozen BK384.out 3; have hfz17_4 := blk_frozen BK384.out 4))
          go_ret
          exact ⟨by first | rfl | (simp [errW_none, errW_some] <;> rfl) | (simp [*, errW_none, errW_some] <;> rfl), by repeat (first | (with_reducible first | exact HB.out | apply below_alloc | apply pw_below_drewN | apply below_drew1 | refine below_set ?_ GE383.out | refine below_set ?_ GE384.out) | exact HB.out)⟩
      · rw [if_neg c5] at H
        have c5b0 : (a0_2.toList == a1_2.toList) = false := beq_eq_false_iff_ne.mpr c5
        have c5b1 : (a0_2.toList != a1_2.toList) = true := bne_iff_ne.mpr c5
        obtain rfl := Option.some.inj H
        go_enter Try.func46, Try.ntmps46
        go_wp2_with (first | ((with_reducible refine gate_dst (N := 2) rfl ?_); refine box_event ?hg (N := 2) ?hd (cs := #[.int .i64 a0_0, .string a0_1, .string a0_2, .string a0_3, .slice A0_4 l0_4.length c0_4]) (t := 25) ?hr ?_; (case hd => rfl); (case hg => rfl); (case hr => first | (go_simp; done) | (go_simp; rfl)); intro gb383 hg w18 hbox hb; have n0_ := Aside0.mk (below_step (by repeat (first | (with_reducible first | exact HB.out | apply below_alloc | apply pw_below_drewN | apply below_drew1) | exact HB.out)) hb); have n1_ := Aside0.mk (hbox); have n2_ := Aside0.mk ((by rw [hg]; exact (below_size (by repeat (first | (with_reducible first | exact HB.out | apply below_alloc | apply pw_below_drewN | apply below_drew1) | exact HB.out))) : w.heap.size ≤ gb383)); have n3_ := Aside0.mk ((by rw [hg]; exact (below_size (by repeat (first | (with_reducible first | exact HB.out | apply below_alloc | apply pw_below_drewN | apply below_drew1) | exact HB.out))) : w.heap.size ≤ gb383)); clear HB; have HB := n0_; have BK383 := n1_; have GW383 := n2_; have GE383 := n3_; clear n0_ n1_ n2_ n3_; clear hb hbox hg) | ((with_reducible refine gate_dst (N := 3) rfl ?_); refine box_event ?hg (N := 3) ?hd (cs := #[.int .i64 a1_0, .string a1_1, .string a1_2, .string a1_3, .slice A1_4 l1_4.length c1_4]) (t := 25) ?hr ?_; (case hd => rfl); (case hg => rfl); (case hr => first | (go_simp; done) | (go_simp; rfl)); intro gb384 hg w19 hbox hb; have n0_ := Aside0.mk (blk_below (g := gb383) (o := .cells #[.int .i64 a0_0, .string a0_1, .string a0_2, .string a0_3, .slice A0_4 l0_4.length c0_4] 25 (0, 0)) (by (with_reducible repeat (first | refine blk_drewN ?_ _ | refine blk_drew ?_ | refine blk_alloc ?_ _)); exact BK383.out) hb); have n1_ := Aside0.mk (below_step (by repeat (first | (with_reducible first | exact HB.out | apply below_alloc | apply pw_below_drewN | apply below_drew1 | refine below_set ?_ GE383.out) | exact HB.out)) hb); have n2_ := Aside0.mk (hbox); have n3_ := Aside0.mk ((by rw [hg]; exact (below_size (by repeat (first | (with_reducible first | exact HB.out | apply below_alloc | apply pw_below_drewN | apply below_drew1 | refine below_set ?_ GE383.out) | exact HB.out))) : w.heap.size ≤ gb384)); have n4_ := Aside0.mk ((by rw [hg]; exact (below_size (by repeat (first | (with_reducible first | exact HB.out | apply below_alloc | apply pw_below_drewN | apply below_drew1 | refine below_set ?_ GE383.out) | exact HB.out))) : w.heap.size ≤ gb384)); have n5_ := Aside0.mk ((by rw [hg]; exact Nat.ne_of_lt (blk_lt (g := gb383) (o := .cells #[.int .i64 a0_0, .string a0_1, .string a0_2, .string a0_3, .slice A0_4 l0_4.length c0_4] 25 (0, 0)) (by (with_reducible repeat (first | refine blk_drewN ?_ _ | refine blk_drew ?_ | refine blk_alloc ?_ _)); exact BK383.out)) : gb383 ≠ gb384)); have n6_ := Aside0.mk ((by rw [hg]; exact Nat.ne_of_gt (blk_lt (g := gb383) (o := .cells #[.int .i64 a0_0, .string a0_1, .string a0_2, .string a0_3, .slice A0_4 l0_4.length c0_4] 25 (0, 0)) (by (with_reducible repeat (first | refine blk_drewN ?_ _ | refine blk_drew ?_ | refine blk_alloc ?_ _)); exact BK383.out)) : gb384 ≠ gb383)); clear BK383; clear HB; have BK383 := n0_; have HB := n1_; have BK384 := n2_; have GW384 := n3_; have GE384 := n4_; have NB383_384 := n5_; have NB384_383 := n6_; clear n0_ n1_ n2_ n3_ n4_ n5_ n6_; clear hb hbox hg; have hnb20 := NB383_384.out; have hnc20 := NB384_383.out; have hcz21_0 : w19.cell? ⟨gb383, 0, none⟩ = some (.int .i64 a0_0) := (blk_cell BK383.out 0).trans rfl; have hcz21_1 : w19.cell? ⟨gb383, 1, none⟩ = some (.string a0_1) := (blk_cell BK383.out 1).trans rfl; have hcz21_2 : w19.cell? ⟨gb383, 2, none⟩ = some (.string a0_2) := (blk_cell BK383.out 2).trans rfl; have hcz21_3 : w19.cell? ⟨gb383, 3, none⟩ = some (.string a0_3) := (blk_cell BK383.out 3).trans rfl; have hcz21_4 : w19.cell? ⟨gb383, 4, none⟩ = some (.slice A0_4 l0_4.length c0_4) := (blk_cell BK383.out 4).trans rfl; have hfz21_0 := blk_frozen BK383.out 0; have hfz21_1 := blk_frozen BK383.out 1; have hfz21_2 := blk_frozen BK383.out 2; have hfz21_3 := blk_frozen BK383.out 3; have hfz21_4 := blk_frozen BK383.out 4; have hcz22_0 : w19.cell? ⟨gb384, 0, none⟩ = some (.int .i64 a1_0) := (blk_cell BK384.out 0).trans rfl; have hcz22_1 : w19.cell? ⟨gb384, 1, none⟩ = some (.string a1_1) := (blk_cell BK384.out 1).trans rfl; have hcz22_2 : w19.cell? ⟨gb384, 2, none⟩ = some (.string a1_2) := (blk_cell BK384.out 2).trans rfl; have hcz22_3 : w19.cell? ⟨gb384, 3, none⟩ = some (.string a1_3) := (blk_cell BK384.out 3).trans rfl; have hcz22_4 : w19.cell? ⟨gb384, 4, none⟩ = some (.slice A1_4 l1_4.length c1_4) := (blk_cell BK384.out 4).trans rfl; have hfz22_0 := blk_frozen BK384.out 0; have hfz22_1 := blk_frozen BK384.out 1; have hfz22_2 := blk_frozen BK384.out 2; have hfz22_3 := blk_frozen BK384.out 3; have hfz22_4 := blk_frozen BK384.out 4))
        go_ret
        exact ⟨by first | rfl | (simp [errW_none, errW_some] <;> rfl) | (simp [*, errW_none, errW_some] <;> rfl), by repeat (first | (with_reducible first | exact HB.out | apply below_alloc | apply pw_below_drewN | apply below_drew1 | refine below_set ?_ GE383.out | refine below_set ?_ GE384.out) | exact HB.out)⟩
    · rw [if_neg c4] at H
      have c4b0 : (a0_1.toList == a1_1.toList) = false := beq_eq_false_iff_ne.mpr c4
      have c4b1 : (a0_1.toList != a1_1.toList) = true := bne_iff_ne.mpr c4
      obtain rfl := Option.some.inj H
      go_enter Try.func46, Try.ntmps46
      go_wp2_with (first | ((with_reducible refine gate_dst (N := 2) rfl ?_); refine box_event ?hg (N := 2) ?hd (cs := #[.int .i64 a0_0, .string a0_1, .string a0_2, .string a0_3, .slice A0_4 l0_4.length c0_4]) (t := 25) ?hr ?_; (case hd => rfl); (case hg => rfl); (case hr => first | (go_simp; done) | (go_simp; rfl)); intro gb383 hg w23 hbox hb; have n0_ := Aside0.mk (below_step (by repeat (first | (with_reducible first | exact HB.out | apply below_alloc | apply pw_below_drewN | apply below_drew1) | exact HB.out)) hb); have n1_ := Aside0.mk (hbox); have n2_ := Aside0.mk ((by rw [hg]; exact (below_size (by repeat (first | (with_reducible first | exact HB.out | apply below_alloc | apply pw_below_drewN | apply below_drew1) | exact HB.out))) : w.heap.size ≤ gb383)); have n3_ := Aside0.mk ((by rw [hg]; exact (below_size (by repeat (first | (with_reducible first | exact HB.out | apply below_alloc | apply pw_below_drewN | apply below_drew1) | exact HB.out))) : w.heap.size ≤ gb383)); clear HB; have HB := n0_; have BK383 := n1_; have GW383 := n2_; have GE383 := n3_; clear n0_ n1_ n2_ n3_; clear hb hbox hg) | ((with_reducible refine gate_dst (N := 3) rfl ?_); refine box_event ?hg (N := 3) ?hd (cs := #[.int .i64 a1_0, .string a1_1, .string a1_2, .string a1_3, .slice A1_4 l1_4.length c1_4]) (t := 25) ?hr ?_; (case hd => rfl); (case hg => rfl); (case hr => first | (go_simp; done) | (go_simp; rfl)); intro gb384 hg w24 hbox hb; have n0_ := Aside0.mk (blk_below (g := gb383) (o := .cells #[.int .i64 a0_0, .string a0_1, .string a0_2, .string a0_3, .slice A0_4 l0_4.length c0_4] 25 (0, 0)) (by (with_reducible repeat (first | refine blk_drewN ?_ _ | refine blk_drew ?_ | refine blk_alloc ?_ _)); exact BK383.out) hb); have n1_ := Aside0.mk (below_step (by repeat (first | (with_reducible first | exact HB.out | apply below_alloc | apply pw_below_drewN | apply below_drew1 | refine below_set ?_ GE383.out) | exact HB.out)) hb); have n2_ := Aside0.mk (hbox); have n3_ := Aside0.mk ((by rw [hg]; exact (below_size (by repeat (first | (with_reducible first | exact HB.out | apply below_alloc | apply pw_below_drewN | apply below_drew1 | refine below_set ?_ GE383.out) | exact HB.out))) : w.heap.size ≤ gb384)); have n4_ := Aside0.mk ((by rw [hg]; exact (below_size (by repeat (first | (with_reducible first | exact HB.out | apply below_alloc | apply pw_below_drewN | apply below_drew1 | refine below_set ?_ GE383.out) | exact HB.out))) : w.heap.size ≤ gb384)); have n5_ := Aside0.mk ((by rw [hg]; exact Nat.ne_of_lt (blk_lt (g := gb383) (o := .cells #[.int .i64 a0_0, .string a0_1, .string a0_2, .string a0_3, .slice A0_4 l0_4.length c0_4] 25 (0, 0)) (by (with_reducible repeat (first | refine blk_drewN ?_ _ | refine blk_drew ?_ | refine blk_alloc ?_ _)); exact BK383.out)) : gb383 ≠ gb384)); have n6_ := Aside0.mk ((by rw [hg]; exact Nat.ne_of_gt (blk_lt (g := gb383) (o := .cells #[.int .i64 a0_0, .string a0_1, .string a0_2, .string a0_3, .slice A0_4 l0_4.length c0_4] 25 (0, 0)) (by (with_reducible repeat (first | refine blk_drewN ?_ _ | refine blk_drew ?_ | refine blk_alloc ?_ _)); exact BK383.out)) : gb384 ≠ gb383)); clear BK383; clear HB; have BK383 := n0_; have HB := n1_; have BK384 := n2_; have GW384 := n3_; have GE384 := n4_; have NB383_384 := n5_; have NB384_383 := n6_; clear n0_ n1_ n2_ n3_ n4_ n5_ n6_; clear hb hbox hg; have hnb25 := NB383_384.out; have hnc25 := NB384_383.out; have hcz26_0 : w24.cell? ⟨gb383, 0, none⟩ = some (.int .i64 a0_0) := (blk_cell BK383.out 0).trans rfl; have hcz26_1 : w24.cell? ⟨gb383, 1, none⟩ = some (.string a0_1) := (blk_cell BK383.out 1).trans rfl; have hcz26_2 : w24.cell? ⟨gb383, 2, none⟩ = some (.string a0_2) := (blk_cell BK383.out 2).trans rfl; have hcz26_3 : w24.cell? ⟨gb383, 3, none⟩ = some (.string a0_3) := (blk_cell BK383.out 3).trans rfl; have hcz26_4 : w24.cell? ⟨gb383, 4, none⟩ = some (.slice A0_4 l0_4.length c0_4) := (blk_cell BK383.out 4).trans rfl; have hfz26_0 := blk_frozen BK383.out 0; have hfz26_1 := blk_frozen BK383.out 1; have hfz26_2 := blk_frozen BK383.out 2; have hfz26_3 := blk_frozen BK383.out 3; have hfz26_4 := blk_frozen BK383.out 4; have hcz27_0 : w24.cell? ⟨gb384, 0, none⟩ = some (.int .i64 a1_0) := (blk_cell BK384.out 0).trans rfl; have hcz27_1 : w24.cell? ⟨gb384, 1, none⟩ = some (.string a1_1) := (blk_cell BK384.out 1).trans rfl; have hcz27_2 : w24.cell? ⟨gb384, 2, none⟩ = some (.string a1_2) := (blk_cell BK384.out 2).trans rfl; have hcz27_3 : w24.cell? ⟨gb384, 3, none⟩ = some (.string a1_3) := (blk_cell BK384.out 3).trans rfl; have hcz27_4 : w24.cell? ⟨gb384, 4, none⟩ = some (.slice A1_4 l1_4.length c1_4) := (blk_cell BK384.out 4).trans rfl; have hfz27_0 := blk_frozen BK384.out 0; have hfz27_1 := blk_frozen BK384.out 1; have hfz27_2 := blk_frozen BK384.out 2; have hfz27_3 := blk_frozen BK384.out 3; have hfz27_4 := blk_frozen BK384.out 4))
      go_ret
      exact ⟨by first | rfl | (simp [errW_none, errW_some] <;> rfl) | (simp [*, errW_none, errW_some] <;> rfl), by repeat (first | (with_reducible first | exact HB.out | apply below_alloc | apply pw_below_drewN | apply below_drew1 | refine below_set ?_ GE383.out | refine below_set ?_ GE384.out) | exact HB.out)⟩
  · rw [if_neg c3] at H
    have c3b0 : (a0_0 == a1_0) = false := beq_eq_false_iff_ne.mpr c3
    have c3b1 : (a0_0 != a1_0) = true := bne_iff_ne.mpr c3
    obtain rfl := Option.some.inj H
    go_enter Try.func46, Try.ntmps46
    go_wp2_with (first | ((with_reducible refine gate_dst (N := 2) rfl ?_); refine box_event ?hg (N := 2) ?hd (cs := #[.int .i64 a0_0, .string a0_1, .string a0_2, .string a0_3, .slice A0_4 l0_4.length c0_4]) (t := 25) ?hr ?_; (case hd => rfl); (case hg => rfl); (case hr => first | (go_simp; done) | (go_simp; rfl)); intro gb383 hg w28 hbox hb; have n0_ := Aside0.mk (below_step (by repeat (first | (with_reducible first | exact HB.out | apply below_alloc | apply pw_below_drewN | apply below_drew1) | exact HB.out)) hb); have n1_ := Aside0.mk (hbox); have n2_ := Aside0.mk ((by rw [hg]; exact (below_size (by repeat (first | (with_reducible first | exact HB.out | apply below_alloc | apply pw_below_drewN | apply below_drew1) | exact HB.out))) : w.heap.size ≤ gb383)); have n3_ := Aside0.mk ((by rw [hg]; exact (below_size (by repeat (first | (with_reducible first | exact HB.out | apply below_alloc | apply pw_below_drewN | apply below_drew1) | exact HB.out))) : w.heap.size ≤ gb383)); clear HB; have HB := n0_; have BK383 := n1_; have GW383 := n2_; have GE383 := n3_; clear n0_ n1_ n2_ n3_; clear hb hbox hg) | ((with_reducible refine gate_dst (N := 3) rfl ?_); refine box_event ?hg (N := 3) ?hd (cs := #[.int .i64 a1_0, .string a1_1, .string a1_2, .string a1_3, .slice A1_4 l1_4.length c1_4]) (t := 25) ?hr ?_; (case hd => rfl); (case hg => rfl); (case hr => first | (go_simp; done) | (go_simp; rfl)); intro gb384 hg w29 hbox hb; have n0_ := Aside0.mk (blk_below (g := gb383) (o := .cells #[.int .i64 a0_0, .string a0_1, .string a0_2, .string a0_3, .slice A0_4 l0_4.length c0_4] 25 (0, 0)) (by (with_reducible repeat (first | refine blk_drewN ?_ _ | refine blk_drew ?_ | refine blk_alloc ?_ _)); exact BK383.out) hb); have n1_ := Aside0.mk (below_step (by repeat (first | (with_reducible first | exact HB.out | apply below_alloc | apply pw_below_drewN | apply below_drew1 | refine below_set ?_ GE383.out) | exact HB.out)) hb); have n2_ := Aside0.mk (hbox); have n3_ := Aside0.mk ((by rw [hg]; exact (below_size (by repeat (first | (with_reducible first | exact HB.out | apply below_alloc | apply pw_below_drewN | apply below_drew1 | refine below_set ?_ GE383.out) | exact HB.out))) : w.heap.size ≤ gb384)); have n4_ := Aside0.mk ((by rw [hg]; exact (below_size (by repeat (first | (with_reducible first | exact HB.out | apply below_alloc | apply pw_below_drewN | apply below_drew1 | refine below_set ?_ GE383.out) | exact HB.out))) : w.heap.size ≤ gb384)); have n5_ := Aside0.mk ((by rw [hg]; exact Nat.ne_of_lt (blk_lt (g := gb383) (o := .cells #[.int .i64 a0_0, .string a0_1, .string a0_2, .string a0_3, .slice A0_4 l0_4.length c0_4] 25 (0, 0)) (by (with_reducible repeat (first | refine blk_drewN ?_ _ | refine blk_drew ?_ | refine blk_alloc ?_ _)); exact BK383.out)) : gb383 ≠ gb384)); have n6_ := Aside0.mk ((by rw [hg]; exact Nat.ne_of_gt (blk_lt (g := gb383) (o := .cells #[.int .i64 a0_0, .string a0_1, .string a0_2, .string a0_3, .slice A0_4 l0_4.length c0_4] 25 (0, 0)) (by (with_reducible repeat (first | refine blk_drewN ?_ _ | refine blk_drew ?_ | refine blk_alloc ?_ _)); exact BK383.out)) : gb384 ≠ gb383)); clear BK383; clear HB; have BK383 := n0_; have HB := n1_; have BK384 := n2_; have GW384 := n3_; have GE384 := n4_; have NB383_384 := n5_; have NB384_383 := n6_; clear n0_ n1_ n2_ n3_ n4_ n5_ n6_; clear hb hbox hg; have hnb30 := NB383_384.out; have hnc30 := NB384_383.out; have hcz31_0 : w29.cell? ⟨gb383, 0, none⟩ = some (.int .i64 a0_0) := (blk_cell BK383.out 0).trans rfl; have hcz31_1 : w29.cell? ⟨gb383, 1, none⟩ = some (.string a0_1) := (blk_cell BK383.out 1).trans rfl; have hcz31_2 : w29.cell? ⟨gb383, 2, none⟩ = some (.string a0_2) := (blk_cell BK383.out 2).trans rfl; have hcz31_3 : w29.cell? ⟨gb383, 3, none⟩ = some (.string a0_3) := (blk_cell BK383.out 3).trans rfl; have hcz31_4 : w29.cell? ⟨gb383, 4, none⟩ = some (.slice A0_4 l0_4.length c0_4) := (blk_cell BK383.out 4).trans rfl; have hfz31_0 := blk_frozen BK383.out 0; have hfz31_1 := blk_frozen BK383.out 1; have hfz31_2 := blk_frozen BK383.out 2; have hfz31_3 := blk_frozen BK383.out 3; have hfz31_4 := blk_frozen BK383.out 4; have hcz32_0 : w29.cell? ⟨gb384, 0, none⟩ = some (.int .i64 a1_0) := (blk_cell BK384.out 0).trans rfl; have hcz32_1 : w29.cell? ⟨gb384, 1, none⟩ = some (.string a1_1) := (blk_cell BK384.out 1).trans rfl; have hcz32_2 : w29.cell? ⟨gb384, 2, none⟩ = some (.string a1_2) := (blk_cell BK384.out 2).trans rfl; have hcz32_3 : w29.cell? ⟨gb384, 3, none⟩ = some (.string a1_3) := (blk_cell BK384.out 3).trans rfl; have hcz32_4 : w29.cell? ⟨gb384, 4, none⟩ = some (.slice A1_4 l1_4.length c1_4) := (blk_cell BK384.out 4).trans rfl; have hfz32_0 := blk_frozen BK384.out 0; have hfz32_1 := blk_frozen BK384.out 1; have hfz32_2 := blk_frozen BK384.out 2; have hfz32_3 := blk_frozen BK384.out 3; have hfz32_4 := blk_frozen BK384.out 4))
    go_ret
    exact ⟨by first | rfl | (simp [errW_none, errW_some] <;> rfl) | (simp [*, errW_none, errW_some] <;> rfl), by repeat (first | (with_reducible first | exact HB.out | apply below_alloc | apply pw_below_drewN | apply below_drew1 | refine below_set ?_ GE383.out | refine below_set ?_ GE384.out) | exact HB.out)⟩
def api_Node_45.l0 : Nat → List (S25) → List (S25) → Int → Int → Option (Bool)
  | 0, _, _, _, _ => none
  | k + 1, x1, x15, x16, x17 => if x17 < x16 then (if 0 ≤ x17 then (if x17 < (x15.length : Int) then (if x17 < (x1.length : Int) then ((tree_Same_1.f k ((rd_T25 x15 x17).f0) ((rd_T25 x15 x17).f1) ((rd_T25 x15 x17).f2) ((rd_T25 x15 x17).f3) ((rd_T25 x15 x17).f4) ((rd_T25 x1 x17).f0) ((rd_T25 x1 x17).f1) ((rd_T25 x1 x17).f2) ((rd_T25 x1 x17).f3) ((rd_T25 x1 x17).f4)).bind fun t390 => (if t390 = true then (api_Node_45.l0 k x1 x15 x16 (wrap64 (x17 + 1))) else (some false))) else (none)) else (none)) else (none)) else (some true)
def api_Node_45.f (k : Nat) (l0 : List (S25)) (l1 : List (S25))  : Option (Bool) := if (l0.length : Int) = (l1.length : Int) then (api_Node_45.l0 k l1 l0 (l0.length : Int) 0) else (some false)
theorem api_Node_45.mono_l : ∀ k, (∀ y0 y1 y2 y3, LeO (api_Node_45.l0 k y0 y1 y2 y3) (api_Node_45.l0 (k + 1) y0 y1 y2 y3))
  | 0 => fun _ _ _ _ r h => by simp [api_Node_45.l0] at h
  | k + 1 => by
    have ih0 := api_Node_45.mono_l k
    · intro y0 y1 y2 y3
      unfold api_Node_45.l0
      repeat' first
      | (with_reducible exact ih0 _ _ _ _)
      | (with_reducible exact tree_Same_1.mono _ _ _ _ _ _ _ _ _ _ _)
      | (with_reducible exact LeO.refl _)
      | (with_reducible exact LeO.none _)
      | (with_reducible refine LeO.ite ?_ ?_)
      | (with_reducible refine LeO.bind ?_ (fun _ => ?_))
      | exact ih0 _ _ _ _
      | exact tree_Same_1.mono _ _ _ _ _ _ _ _ _ _ _
      | exact LeO.none _
      | refine LeO.ite ?_ ?_
      | refine LeO.bind ?_ (fun _ => ?_)
theorem api_Node_45.mono : ∀ a0 a1 k, LeO (api_Node_45.f k a0 a1) (api_Node_45.f (k + 1) a0 a1) := by
  intro a0 a1 k
  have ih0 := api_Node_45.mono_l k
  unfold api_Node_45.f
  repeat' first
      | (with_reducible exact ih0 _ _ _ _)
      | (with_reducible exact tree_Same_1.mono _ _ _ _ _ _ _ _ _ _ _)
      | (with_reducible exact LeO.refl _)
      | (with_reducible exact LeO.none _)
      | (with_reducible refine LeO.ite ?_ ?_)
      | (with_reducible refine LeO.bind ?_ (fun _ => ?_))
      | exact ih0 _ _ _ _
      | exact tree_Same_1.mono _ _ _ _ _ _ _ _ _ _ _
      | exact LeO.none _
      | refine LeO.ite ?_ ?_
      | refine LeO.bind ?_ (fun _ => ?_)
set_option maxHeartbeats 8000000 in
set_option maxRecDepth 100000 in
theorem api_Node_45.calls (k : Nat) (A0 : Option Addr) (c0 : Nat) (l0 : List (S25)) (A1 : Option Addr) (c1 : Nat) (l1 : List (S25))  (r : Bool) (w : World) (hr0 : Kd.C k25 w A0 l0.length l0) (hc0 : l0.length ≤ c0) (hr1 : Kd.C k25 w A1 l1.length l1) (hc1 : l1.length ≤ c1) (h : api_Node_45.f k l0 l1 = some r) :
    Calls Try.prog 45 #[.slice A0 l0.length c0, .slice A1 l1.length c1, .func (.func 46) #[] #[]] w fun e w' => e = .returned (.bool r) ∧ Below w.heap.size w w' := by
  have hu25 := Try.underlying25
  have HR0 := Aside0.mk hr0
  have HC0 := Aside0.mk hc0
  clear hr0 hc0
  have HR1 := Aside0.mk hr1
  have HC1 := Aside0.mk hc1
  clear hr1 hc1
  have HB := Aside0.mk (Below.refl w.heap.size w)
  have H : (if (l0.length : Int) = (l1.length : Int) then (api_Node_45.l0 k l1 l0 (l0.length : Int) 0) else (some false)) = some r := h
  clear h
  by_cases c4 : (l0.length : Int) = (l1.length : Int)
  · rw [if_pos c4] at H
    have c4b0 : ((l0.length : Int) == (l1.length : Int)) = true := beq_iff_eq.mpr c4
    have c4b1 : ((l0.length : Int) != (l1.length : Int)) = false := bne_eq_false_iff_eq.mpr c4
    have c4b2 : (l0.length == l1.length) = true := by first | simpa using c4 | (simp at c4 ⊢; omega)
    clear c4
    have H' := Aside0.mk H
    clear H
    go_enter Try.func45, Try.ntmps45
    go_wp2
    go_loopg [17] k (fun kq v17 w' => ∃ (x17_1 : Int), v17 = .int .i64 x17_1 ∧ Aside0 (api_Node_45.l0 kq l1 l0 (l0.length : Int) x17_1 = some r) ∧ Aside0 (kq ≤ k) ∧ Aside0 (Below w.heap.size w w'))
    case atStart => exact ⟨(0), (by first | rfl | (simp; done) | (simp [*]; done)), H', ⟨Nat.le_refl _⟩, ⟨by repeat (first | (with_reducible first | exact HB.out | apply below_alloc | apply pw_below_drewN | apply below_drew1) | exact HB.out)⟩⟩
    case round =>
      clear H'
      try clear c1
      try clear p2
      try clear c4
      try clear c4b0
      try clear c4b1
      try clear c4b2
      obtain ⟨x17_1, rfl, HA, HK1, HB⟩ := hrel
      cases gk with
      | zero => exact absurd HA.out (by simp [api_Node_45.l0])
      | succ k1 =>
        have H := HA.out
        clear HA
        simp only [api_Node_45.l0] at H
        by_cases c5 : x17_1 < (l0.length : Int)
        · rw [if_pos c5] at H
          have c5b0 : decide (x17_1 < (l0.length : Int)) = true := decide_eq_true c5
          clear c5
          by_cases c6 : 0 ≤ x17_1
          · rw [if_pos c6] at H
            have c6b0 : decide (0 ≤ x17_1) = true := decide_eq_true c6
            clear c6
            by_cases c7 : x17_1 < (l0.length : Int)
            · rw [if_pos c7] at H
              have c7b0 : decide (x17_1 < (l0.length : Int)) = true := decide_eq_true c7
              clear c7
              by_cases c8 : x17_1 < (l1.length : Int)
              · rw [if_pos c8] at H
                have c8b0 : decide (x17_1 < (l1.length : Int)) = true := decide_eq_true c8
                clear c8
                replace H := Option.bind_eq_some_iff.mp H
                obtain ⟨t390, A90, H⟩ := H
                replace H : (if t390 = true then (api_Node_45.l0 k1 l1 l0 (l0.length : Int) (wrap64 (x17_1 + 1))) else (some false)) = some r := H
                have A9 := Aside0.mk A90
                clear A90
                by_cases c10 : t390 = true
                · subst c10
                  have H1 : (api_Node_45.l0 k1 l1 l0 (l0.length : Int) (wrap64 (x17_1 + 1))) = some r := by rw [if_pos rfl] at H; exact H
                  clear H
                  have H := H1
                  clear H1
                  have H' := Aside0.mk H
                  clear H
                  have p386 : 0 ≤ (x17_1 : Int) := of_decide_eq_true (by first | (with_reducible assumption) | assumption)
                  have q386 : x17_1 < (l0.length : Int) := of_decide_eq_true (by first | (with_reducible assumption) | assumption)
                  obtain ⟨ad386, A386_4, c386_4, e386, hx386_0, hx386_1, hx386_2, hx386_3, hx386_4, hl386_4, hi386_4⟩ := at_T25 HR0.out x17_1 p386 q386
                  cases e386
                  replace hx386_0 := (HB.out.cell (World.block_lt_of_cell? w _ hx386_0)).trans hx386_0
                  replace hx386_1 := (HB.out.cell (World.block_lt_of_cell? w _ hx386_1)).trans hx386_1
                  replace hx386_2 := (HB.out.cell (World.block_lt_of_cell? w _ hx386_2)).trans hx386_2
                  replace hx386_3 := (HB.out.cell (World.block_lt_of_cell? w _ hx386_3)).trans hx386_3
                  replace hx386_4 := (HB.out.cell (World.block_lt_of_cell? w _ hx386_4)).trans hx386_4
                  have HR386_4 := Aside0.mk hi386_4
                  have HC386_4 := Aside0.mk hl386_4
                  clear hi386_4 hl386_4
                  replace p386 := eq_true p386
                  replace q386 := eq_true q386
                  go_wp2_with (first | ((with_reducible refine gate_dst (N := 8) rfl ?_); refine box_event ?hg (N := 8) ?hd (cs := #[.int .i64 0, .string (⟨#[]⟩ : ByteArray), .string (⟨#[]⟩ : ByteArray), .string (⟨#[]⟩ : ByteArray), .slice none 0 0]) (t := 25) ?hr ?_; (case hd => rfl); (case hg => rfl); (case hr => first | (go_simp; done) | (go_simp; rfl)); intro gb387 hg w11 hbox hb; have n0_ := Aside0.mk (below_step (by repeat (first | (with_reducible first | exact HB.out | apply below_alloc | apply pw_below_drewN | apply below_drew1) | exact HB.out)) hb); have n1_ := Aside0.mk (hbox); have n2_ := Aside0.mk ((by rw [hg]; exact (below_size (by repeat (first | (with_reducible first | exact HB.out | apply below_alloc | apply pw_below_drewN | apply below_drew1) | exact HB.out))) : w.heap.size ≤ gb387)); have n3_ := Aside0.mk ((by rw [hg]; exact (below_size (by repeat (first | (with_reducible first | exact HB.out | apply below_alloc | apply pw_below_drewN | apply below_drew1) | exact HB.out))) : w.heap.size ≤ gb387)); clear HB; have HB := n0_; have BK387 := n1_; have GW387 := n2_; have GE387 := n3_; clear n0_ n1_ n2_ n3_; clear hb hbox hg; have hcz12_0 : w11.cell? ⟨gb387, 0, none⟩ = some (.int .i64 0) := (blk_cell BK387.out 0).trans rfl; have hcz12_1 : w11.cell? ⟨gb387, 1, none⟩ = some (.string (⟨#[]⟩ : ByteArray)) := (blk_cell BK387.out 1).trans rfl; have hcz12_2 : w11.cell? ⟨gb387, 2, none⟩ = some (.string (⟨#[]⟩ : ByteArray)) := (blk_cell BK387.out 2).trans rfl; have hcz12_3 : w11.cell? ⟨gb387, 3, none⟩ = some (.string (⟨#[]⟩ : ByteArray)) := (blk_cell BK387.out 3).trans rfl; have hcz12_4 : w11.cell? ⟨gb387, 4, none⟩ = some (.slice none 0 0) := (blk_cell BK387.out 4).trans rfl; have hfz12_0 := blk_frozen BK387.out 0; have hfz12_1 := blk_frozen BK387.out 1; have hfz12_2 := blk_frozen BK387.out 2; have hfz12_3 := blk_frozen BK387.out 3; have hfz12_4 := blk_frozen BK387.out 4; have p388 : 0 ≤ (x17_1 : Int) := of_decide_eq_true (by first | (with_reducible assumption) | assumption); have q388 : x17_1 < (l1.length : Int) := of_decide_eq_true (by first | (with_reducible assumption) | assumption); obtain ⟨ad388, A388_4, c388_4, e388, hx388_0, hx388_1, hx388_2, hx388_3, hx388_4, hl388_4, hi388_4⟩ := at_T25 HR1.out x17_1 p388 q388; cases e388; have hn388_0 : ad388.block ≠ gb387 := Nat.ne_of_lt (Nat.lt_of_lt_of_le (by have := World.block_lt_of_cell? _ _ hx388_0; first | rwa [add_block] at this | exact this) GW387.out); have hn388_1 : ad388.block ≠ gb387 := Nat.ne_of_lt (Nat.lt_of_lt_of_le (by have := World.block_lt_of_cell? _ _ hx388_0; first | rwa [add_block] at this | exact this) GW387.out); have hn388_2 : ad388.block ≠ gb387 := Nat.ne_of_lt (Nat.lt_of_lt_of_le (by have := World.block_lt_of_cell? _ _ hx388_0; first | rwa [add_block] at this | exact this) GW387.out); have hn388_3 : ad388.block ≠ gb387 := Nat.ne_of_lt (Nat.lt_of_lt_of_le (by have := World.block_lt_of_cell? _ _ hx388_0; first | rwa [add_block] at this | exact this) GW387.out); have hn388_4 : ad388.block ≠ gb387 := Nat.ne_of_lt (Nat.lt_of_lt_of_le (by have := World.block_lt_of_cell? _ _ hx388_0; first | rwa [add_block] at this | exact this) GW387.out); replace hx388_0 := (HB.out.cell (World.block_lt_of_cell? w _ hx388_0)).trans hx388_0; replace hx388_1 := (HB.out.cell (World.block_lt_of_cell? w _ hx388_1)).trans hx388_1; replace hx388_2 := (HB.out.cell (World.block_lt_of_cell? w _ hx388_2)).trans hx388_2; replace hx388_3 := (HB.out.cell (World.block_lt_of_cell? w _ hx388_3)).trans hx388_3; replace hx388_4 := (HB.out.cell (World.block_lt_of_cell? w _ hx388_4)).trans hx388_4; have HR388_4 := Aside0.mk hi388_4; have HC388_4 := Aside0.mk hl388_4; clear hi388_4 hl388_4; replace hx388_0 := (cell_far (p := ⟨gb387, 0, none⟩) (by first | (rw [add_block]; exact hn388_0) | (show (Addr.add _ _).block ≠ _; rw [add_block]; exact hn388_0) | exact hn388_0) (.int .i64 ((rd_T25 l0 x17_1).f0))).trans hx388_0; replace hx388_1 := (cell_far (p := ⟨gb387, 0, none⟩) (by first | (rw [add_block]; exact hn388_0) | (show (Addr.add _ _).block ≠ _; rw [add_block]; exact hn388_0) | exact hn388_0) (.int .i64 ((rd_T25 l0 x17_1).f0))).trans hx388_1; replace hx388_2 := (cell_far (p := ⟨gb387, 0, none⟩) (by first | (rw [add_block]; exact hn388_0) | (show (Addr.add _ _).block ≠ _; rw [add_block]; exact hn388_0) | exact hn388_0) (.int .i64 ((rd_T25 l0 x17_1).f0))).trans hx388_2; replace hx388_3 := (cell_far (p := ⟨gb387, 0, none⟩) (by first | (rw [add_block]; exact hn388_0) | (show (Addr.add _ _).block ≠ _; rw [add_block]; exact hn388_0) | exact hn388_0) (.int .i64 ((rd_T25 l0 x17_1).f0))).trans hx388_3; replace hx388_4 := (cell_far (p := ⟨gb387, 0, none⟩) (by first | (rw [add_block]; exact hn388_0) | (show (Addr.add _ _).block ≠ _; rw [add_block]; exact hn388_0) | exact hn388_0) (.int .i64 ((rd_T25 l0 x17_1).f0))).trans hx388_4; replace hx388_0 := (cell_far (p := ⟨gb387, 1, none⟩) (by first | (rw [add_block]; exact hn388_1) | (show (Addr.add _ _).block ≠ _; rw [add_block]; exact hn388_1) | exact hn388_1) (.string ((rd_T25 l0 x17_1).f1))).trans hx388_0; replace hx388_1 := (cell_far (p := ⟨gb387, 1, none⟩) (by first | (rw [add_block]; exact hn388_1) | (show (Addr.add _ _).block ≠ _; rw [add_block]; exact hn388_1) | exact hn388_1) (.string ((rd_T25 l0 x17_1).f1))).trans hx388_1; replace hx388_2 := (cell_far (p := ⟨gb387, 1, none⟩) (by first | (rw [add_block]; exact hn388_1) | (show (Addr.add _ _).block ≠ _; rw [add_block]; exact hn388_1) | exact hn388_1) (.string ((rd_T25 l0 x17_1).f1))).trans hx388_2; replace hx388_3 := (cell_far (p := ⟨gb387, 1, none⟩) (by first | (rw [add_block]; exact hn388_1) | (show (Addr.add _ _).block ≠ _; rw [add_block]; exact hn388_1) | exact hn388_1) (.string ((rd_T25 l0 x17_1).f1))).trans hx388_3; replace hx388_4 := (cell_far (p := ⟨gb387, 1, none⟩) (by first | (rw [add_block]; exact hn388_1) | (show (Addr.add _ _).block ≠ _; rw [add_block]; exact hn388_1) | exact hn388_1) (.string ((rd_T25 l0 x17_1).f1))).trans hx388_4; replace hx388_0 := (cell_far (p := ⟨gb387, 2, none⟩) (by first | (rw [add_block]; exact hn388_2) | (show (Addr.add _ _).block ≠ _; rw [add_block]; exact hn388_2) | exact hn388_2) (.string ((rd_T25 l0 x17_1).f2))).trans hx388_0; replace hx388_1 := (cell_far (p := ⟨gb387, 2, none⟩) (by first | (rw [add_block]; exact hn388_2) | (show (Addr.add _ _).block ≠ _; rw [add_block]; exact hn388_2) | exact hn388_2) (.string ((rd_T25 l0 x17_1).f2))).trans hx388_1; replace hx388_2 := (cell_far (p := ⟨gb387, 2, none⟩) (by first | (rw [add_block]; exact hn388_2) | (show (Addr.add _ _).block ≠ _; rw [add_block]; exact hn388_2) | exact hn388_2) (.string ((rd_T25 l0 x17_1).f2))).trans hx388_2; replace hx388_3 := (cell_far (p := ⟨gb387, 2, none⟩) (by first | (rw [add_block]; exact hn388_2) | (show (Addr.add _ _).block ≠ _; rw [add_block]; exact hn388_2) | exact hn388_2) (.string ((rd_T25 l0 x17_1).f2))).trans hx388_3; replace hx388_4 := (cell_far (p := ⟨gb387, 2, none⟩) (by first | (rw [add_block]; exact hn388_2) | (show (Addr.add _ _).block ≠ _; rw [add_block]; exact hn388_2) | exact hn388_2) (.string ((rd_T25 l0 x17_1).f2))).trans hx388_4; replace hx388_0 := (cell_far (p := ⟨gb387, 3, none⟩) (by first | (rw [add_block]; exact hn388_3) | (show (Addr.add _ _).block ≠ _; rw [add_block]; exact hn388_3) | exact hn388_3) (.string ((rd_T25 l0 x17_1).f3))).trans hx388_0; replace hx388_1 := (cell_far (p := ⟨gb387, 3, none⟩) (by first | (rw [add_block]; exact hn388_3) | (show (Addr.add _ _).block ≠ _; rw [add_block]; exact hn388_3) | exact hn388_3) (.string ((rd_T25 l0 x17_1).f3))).trans hx388_1; replace hx388_2 := (cell_far (p := ⟨gb387, 3, none⟩) (by first | (rw [add_block]; exact hn388_3) | (show (Addr.add _ _).block ≠ _; rw [add_block]; exact hn388_3) | exact hn388_3) (.string ((rd_T25 l0 x17_1).f3))).trans hx388_2; replace hx388_3 := (cell_far (p := ⟨gb387, 3, none⟩) (by first | (rw [add_block]; exact hn388_3) | (show (Addr.add _ _).block ≠ _; rw [add_block]; exact hn388_3) | exact hn388_3) (.string ((rd_T25 l0 x17_1).f3))).trans hx388_3; replace hx388_4 := (cell_far (p := ⟨gb387, 3, none⟩) (by first | (rw [add_block]; exact hn388_3) | (show (Addr.add _ _).block ≠ _; rw [add_block]; exact hn388_3) | exact hn388_3) (.string ((rd_T25 l0 x17_1).f3))).trans hx388_4; replace hx388_0 := (cell_far (p := ⟨gb387, 4, none⟩) (by first | (rw [add_block]; exact hn388_4) | (show (Addr.add _ _).block ≠ _; rw [add_block]; exact hn388_4) | exact hn388_4) (.slice A386_4 ((rd_T25 l0 x17_1).f4).length c386_4)).trans hx388_0; replace hx388_1 := (cell_far (p := ⟨gb387, 4, none⟩) (by first | (rw [add_block]; exact hn388_4) | (show (Addr.add _ _).block ≠ _; rw [add_block]; exact hn388_4) | exact hn388_4) (.slice A386_4 ((rd_T25 l0 x17_1).f4).length c386_4)).trans hx388_1; replace hx388_2 := (cell_far (p := ⟨gb387, 4, none⟩) (by first | (rw [add_block]; exact hn388_4) | (show (Addr.add _ _).block ≠ _; rw [add_block]; exact hn388_4) | exact hn388_4) (.slice A386_4 ((rd_T25 l0 x17_1).f4).length c386_4)).trans hx388_2; replace hx388_3 := (cell_far (p := ⟨gb387, 4, none⟩) (by first | (rw [add_block]; exact hn388_4) | (show (Addr.add _ _).block ≠ _; rw [add_block]; exact hn388_4) | exact hn388_4) (.slice A386_4 ((rd_T25 l0 x17_1).f4).length c386_4)).trans hx388_3; replace hx388_4 := (cell_far (p := ⟨gb387, 4, none⟩) (by first | (rw [add_block]; exact hn388_4) | (show (Addr.add _ _).block ≠ _; rw [add_block]; exact hn388_4) | exact hn388_4) (.slice A386_4 ((rd_T25 l0 x17_1).f4).length c386_4)).trans hx388_4; clear hn388_0; clear hn388_1; clear hn388_2; clear hn388_3; clear hn388_4; replace p388 := eq_true p388; replace q388 := eq_true q388) | ((with_reducible refine gate_dst (N := 9) rfl ?_); refine box_event ?hg (N := 9) ?hd (cs := #[.int .i64 0, .string (⟨#[]⟩ : ByteArray), .string (⟨#[]⟩ : ByteArray), .string (⟨#[]⟩ : ByteArray), .slice none 0 0]) (t := 25) ?hr ?_; (case hd => rfl); (case hg => rfl); (case hr => first | (go_simp; done) | (go_simp; rfl)); intro gb389 hg w13 hbox hb; have n0_ := Aside0.mk (blk_below (g := gb387) (o := .cells #[.int .i64 ((rd_T25 l0 x17_1).f0), .string ((rd_T25 l0 x17_1).f1), .string ((rd_T25 l0 x17_1).f2), .string ((rd_T25 l0 x17_1).f3), .slice A386_4 ((rd_T25 l0 x17_1).f4).length c386_4] 25 (0, 0)) (by (with_reducible repeat (first | refine blk_drewN ?_ _ | refine blk_drew ?_ | refine blk_alloc ?_ _)); refine blk_put (cs := #[.int .i64 ((rd_T25 l0 x17_1).f0), .string ((rd_T25 l0 x17_1).f1), .string ((rd_T25 l0 x17_1).f2), .string ((rd_T25 l0 x17_1).f3), .slice none 0 0]) ?_ 4 _ rfl; (with_reducible repeat (first | refine blk_drewN ?_ _ | refine blk_drew ?_ | refine blk_alloc ?_ _)); refine blk_put (cs := #[.int .i64 ((rd_T25 l0 x17_1).f0), .string ((rd_T25 l0 x17_1).f1), .string ((rd_T25 l0 x17_1).f2), .string (⟨#[]⟩ : ByteArray), .slice none 0 0]) ?_ 3 _ rfl; (with_reducible repeat (first | refine blk_drewN ?_ _ | refine blk_drew ?_ | refine blk_alloc ?_ _)); refine blk_put (cs := #[.int .i64 ((rd_T25 l0 x17_1).f0), .string ((rd_T25 l0 x17_1).f1), .string (⟨#[]⟩ : ByteArray), .string (⟨#[]⟩ : ByteArray), .slice none 0 0]) ?_ 2 _ rfl; (with_reducible repeat (first | refine blk_drewN ?_ _ | refine blk_drew ?_ | refine blk_alloc ?_ _)); refine blk_put (cs := #[.int .i64 ((rd_T25 l0 x17_1).f0), .string (⟨#[]⟩ : ByteArray), .string (⟨#[]⟩ : ByteArray), .string (⟨#[]⟩ : ByteArray), .slice none 0 0]) ?_ 1 _ rfl; (with_reducible repeat (first | refine blk_drewN ?_ _ | refine blk_drew ?_ | refine blk_alloc ?_ _)); refine blk_put (cs := #[.int .i64 0, .string (⟨#[]⟩ : ByteArray), .string (⟨#[]⟩ : ByteArray), .string (⟨#[]⟩ : ByteArray), .slice none 0 0]) ?_ 0 _ rfl; (with_reducible repeat (first | refine blk_drewN ?_ _ | refine blk_drew ?_ | refine blk_alloc ?_ _)); exact BK387.out) hb); have n1_ := Aside0.mk (below_step (by repeat (first | (with_reducible first | exact HB.out | apply below_alloc | apply pw_below_drewN | apply below_drew1 | refine below_set ?_ GE387.out) | exact HB.out)) hb); have n2_ := Aside0.mk (hbox); have n3_ := Aside0.mk ((by rw [hg]; exact (below_size (by repeat (first | (with_reducible first | exact HB.out | apply below_alloc | apply pw_below_drewN | apply below_drew1 | refine below_set ?_ GE387.out) | exact HB.out))) : w.heap.size ≤ gb389)); have n4_ := Aside0.mk ((by rw [hg]; exact (below_size (by repeat (first | (with_reducible first | exact HB.out | apply below_alloc | apply pw_below_drewN | apply below_drew1 | refine below_set ?_ GE387.out) | exact HB.out))) : w.heap.size ≤ gb389)); have n5_ := Aside0.mk ((by rw [hg]; exact Nat.ne_of_lt (blk_lt (g := gb387) (o := .cells #[.int .i64 ((rd_T25 l0 x17_1).f0), .string ((rd_T25 l0 x17_1).f1), .string ((rd_T25 l0 x17_1).f2), .string ((rd_T25 l0 x17_1).f3), .slice A386_4 ((rd_T25 l0 x17_1).f4).length c386_4] 25 (0, 0)) (by (with_reducible repeat (first | refine blk_drewN ?_ _ | refine blk_drew ?_ | refine blk_alloc ?_ _)); refine blk_put (cs := #[.int .i64 ((rd_T25 l0 x17_1).f0), .string ((rd_T25 l0 x17_1).f1), .string ((rd_T25 l0 x17_1).f2), .string ((rd_T25 l0 x17_1).f3), .slice none 0 0]) ?_ 4 _ rfl; (with_reducible repeat (first | refine blk_drewN ?_ _ | refine blk_drew ?_ | refine blk_alloc ?_ _)); refine blk_put (cs := #[.int .i64 ((rd_T25 l0 x17_1).f0), .string ((rd_T25 l0 x17_1).f1), .string ((rd_T25 l0 x17_1).f2), .string (⟨#[]⟩ : ByteArray), .slice none 0 0]) ?_ 3 _ rfl; (with_reducible repeat (first | refine blk_drewN ?_ _ | refine blk_drew ?_ | refine blk_alloc ?_ _)); refine blk_put (cs := #[.int .i64 ((rd_T25 l0 x17_1).f0), .string ((rd_T25 l0 x17_1).f1), .string (⟨#[]⟩ : ByteArray), .string (⟨#[]⟩ : ByteArray), .slice none 0 0]) ?_ 2 _ rfl; (with_reducible repeat (first | refine blk_drewN ?_ _ | refine blk_drew ?_ | refine blk_alloc ?_ _)); refine blk_put (cs := #[.int .i64 ((rd_T25 l0 x17_1).f0), .string (⟨#[]⟩ : ByteArray), .string (⟨#[]⟩ : ByteArray), .string (⟨#[]⟩ : ByteArray), .slice none 0 0]) ?_ 1 _ rfl; (with_reducible repeat (first | refine blk_drewN ?_ _ | refine blk_drew ?_ | refine blk_alloc ?_ _)); refine blk_put (cs := #[.int .i64 0, .string (⟨#[]⟩ : ByteArray), .string (⟨#[]⟩ : ByteArray), .string (⟨#[]⟩ : ByteArray), .slice none 0 0]) ?_ 0 _ rfl; (with_reducible repeat (first | refine blk_drewN ?_ _ | refine blk_drew ?_ | refine blk_alloc ?_ _)); exact BK387.out)) : gb387 ≠ gb389)); have n6_ := Aside0.mk ((by rw [hg]; exact Nat.ne_of_gt (blk_lt (g := gb387) (o := .cells #[.int .i64 ((rd_T25 l0 x17_1).f0), .string ((rd_T25 l0 x17_1).f1), .string ((rd_T25 l0 x17_1).f2), .string ((rd_T25 l0 x17_1).f3), .slice A386_4 ((rd_T25 l0 x17_1).f4).length c386_4] 25 (0, 0)) (by (with_reducible repeat (first | refine blk_drewN ?_ _ | refine blk_drew ?_ | refine blk_alloc ?_ _)); refine blk_put (cs := #[.int .i64 ((rd_T25 l0 x17_1).f0), .string ((rd_T25 l0 x17_1).f1), .string ((rd_T25 l0 x17_1).f2), .string ((rd_T25 l0 x17_1).f3), .slice none 0 0]) ?_ 4 _ rfl; (with_reducible repeat (first | refine blk_drewN ?_ _ | refine blk_drew ?_ | refine blk_alloc ?_ _)); refine blk_put (cs := #[.int .i64 ((rd_T25 l0 x17_1).f0), .string ((rd_T25 l0 x17_1).f1), .string ((rd_T25 l0 x17_1).f2), .string (⟨#[]⟩ : ByteArray), .slice none 0 0]) ?_ 3 _ rfl; (with_reducible repeat (first | refine blk_drewN ?_ _ | refine blk_drew ?_ | refine blk_alloc ?_ _)); refine blk_put (cs := #[.int .i64 ((rd_T25 l0 x17_1).f0), .string ((rd_T25 l0 x17_1).f1), .string (⟨#[]⟩ : ByteArray), .string (⟨#[]⟩ : ByteArray), .slice none 0 0]) ?_ 2 _ rfl; (with_reducible repeat (first | refine blk_drewN ?_ _ | refine blk_drew ?_ | refine blk_alloc ?_ _)); refine blk_put (cs := #[.int .i64 ((rd_T25 l0 x17_1).f0), .string (⟨#[]⟩ : ByteArray), .string (⟨#[]⟩ : ByteArray), .string (⟨#[]⟩ : ByteArray), .slice none 0 0]) ?_ 1 _ rfl; (with_reducible repeat (first | refine blk_drewN ?_ _ | refine blk_drew ?_ | refine blk_alloc ?_ _)); refine blk_put (cs := #[.int .i64 0, .string (⟨#[]⟩ : ByteArray), .string (⟨#[]⟩ : ByteArray), .string (⟨#[]⟩ : ByteArray), .slice none 0 0]) ?_ 0 _ rfl; (with_reducible repeat (first | refine blk_drewN ?_ _ | refine blk_drew ?_ | refine blk_alloc ?_ _)); exact BK387.out)) : gb389 ≠ gb387)); clear BK387; clear HB; have BK387 := n0_; have HB := n1_; have BK389 := n2_; have GW389 := n3_; have GE389 := n4_; have NB387_389 := n5_; have NB389_387 := n6_; clear n0_ n1_ n2_ n3_ n4_ n5_ n6_; clear hb hbox hg; have hnb14 := NB389_387.out; have hnc14 := NB387_389.out; have hcz15_0 : w13.cell? ⟨gb389, 0, none⟩ = some (.int .i64 0) := (blk_cell BK389.out 0).trans rfl; have hcz15_1 : w13.cell? ⟨gb389, 1, none⟩ = some (.string (⟨#[]⟩ : ByteArray)) := (blk_cell BK389.out 1).trans rfl; have hcz15_2 : w13.cell? ⟨gb389, 2, none⟩ = some (.string (⟨#[]⟩ : ByteArray)) := (blk_cell BK389.out 2).trans rfl; have hcz15_3 : w13.cell? ⟨gb389, 3, none⟩ = some (.string (⟨#[]⟩ : ByteArray)) := (blk_cell BK389.out 3).trans rfl; have hcz15_4 : w13.cell? ⟨gb389, 4, none⟩ = some (.slice none 0 0) := (blk_cell BK389.out 4).trans rfl; have hfz15_0 := blk_frozen BK389.out 0; have hfz15_1 := blk_frozen BK389.out 1; have hfz15_2 := blk_frozen BK389.out 2; have hfz15_3 := blk_frozen BK389.out 3; have hfz15_4 := blk_frozen BK389.out 4; have hcz16_0 : w13.cell? ⟨gb387, 0, none⟩ = some (.int .i64 ((rd_T25 l0 x17_1).f0)) := (blk_cell BK387.out 0).trans rfl; have hcz16_1 : w13.cell? ⟨gb387, 1, none⟩ = some (.string ((rd_T25 l0 x17_1).f1)) := (blk_cell BK387.out 1).trans rfl; have hcz16_2 : w13.cell? ⟨gb387, 2, none⟩ = some (.string ((rd_T25 l0 x17_1).f2)) := (blk_cell BK387.out 2).trans rfl; have hcz16_3 : w13.cell? ⟨gb387, 3, none⟩ = some (.string ((rd_T25 l0 x17_1).f3)) := (blk_cell BK387.out 3).trans rfl; have hcz16_4 : w13.cell? ⟨gb387, 4, none⟩ = some (.slice A386_4 ((rd_T25 l0 x17_1).f4).length c386_4) := (blk_cell BK387.out 4).trans rfl; have hfz16_0 := blk_frozen BK387.out 0; have hfz16_1 := blk_frozen BK387.out 1; have hfz16_2 := blk_frozen BK387.out 2; have hfz16_3 := blk_frozen BK387.out 3; have hfz16_4 := blk_frozen BK387.out 4) | ((with_reducible refine gate_calleeT rfl ?_); refine goesLT_ (some 29) rfl rfl Try.func46 (by kernel_rfl) rfl #[.agg #[.int .i64 ((rd_T25 l0 x17_1).f0), .string ((rd_T25 l0 x17_1).f1), .string ((rd_T25 l0 x17_1).f2), .string ((rd_T25 l0 x17_1).f3), .slice A386_4 ((rd_T25 l0 x17_1).f4).length c386_4], .agg #[.int .i64 ((rd_T25 l1 x17_1).f0), .string ((rd_T25 l1 x17_1).f1), .string ((rd_T25 l1 x17_1).f2), .string ((rd_T25 l1 x17_1).f3), .slice A388_4 ((rd_T25 l1 x17_1).f4).length c388_4]] rfl (by (try simp only [List.map_toArray, List.map_cons, List.map_nil]); first | done | rfl | (simp only [List.length_drop, List.length_take]; rfl)) ?_; (with_reducible refine (tree_Same_1.calls k1 ((rd_T25 l0 x17_1).f0) ((rd_T25 l0 x17_1).f1) ((rd_T25 l0 x17_1).f2) ((rd_T25 l0 x17_1).f3) _ _ ((rd_T25 l0 x17_1).f4) ((rd_T25 l1 x17_1).f0) ((rd_T25 l1 x17_1).f1) ((rd_T25 l1 x17_1).f2) ((rd_T25 l1 x17_1).f3) _ _ ((rd_T25 l1 x17_1).f4) true _ ?side1 ?side2 ?side3 ?side4 A9.out).mono ?_); (case side1 => exact Kd.C_below HR386_4.out (by repeat (first | (with_reducible first | exact HB.out | apply below_alloc | apply pw_below_drewN | apply below_drew1 | refine below_set ?_ GE387.out | refine below_set ?_ GE389.out) | exact HB.out))); (case side2 => exact HC386_4.out); (case side3 => exact Kd.C_below HR388_4.out (by repeat (first | (with_reducible first | exact HB.out | apply below_alloc | apply pw_below_drewN | apply below_drew1 | refine below_set ?_ GE387.out | refine below_set ?_ GE389.out) | exact HB.out))); (case side4 => exact HC388_4.out); rintro e w17 ⟨rfl, hb⟩; refine ⟨_, rfl, ?_⟩; have n0_ := Aside0.mk (blk_below (g := gb387) (o := .cells #[.int .i64 ((rd_T25 l0 x17_1).f0), .string ((rd_T25 l0 x17_1).f1), .string ((rd_T25 l0 x17_1).f2), .string ((rd_T25 l0 x17_1).f3), .slice A386_4 ((rd_T25 l0 x17_1).f4).length c386_4] 25 (0, 0)) (by (with_reducible repeat (first | refine blk_drewN ?_ _ | refine blk_drew ?_ | refine blk_alloc ?_ _)); refine blk_far ?_ NB387_389.out _; (with_reducible repeat (first | refine blk_drewN ?_ _ | refine blk_drew ?_ | refine blk_alloc ?_ _)); refine blk_far ?_ NB387_389.out _; (with_reducible repeat (first | refine blk_drewN ?_ _ | refine blk_drew ?_ | refine blk_alloc ?_ _)); refine blk_far ?_ NB387_389.out _; (with_reducible repeat (first | refine blk_drewN ?_ _ | refine blk_drew ?_ | refine blk_alloc ?_ _)); refine blk_far ?_ NB387_389.out _; (with_reducible repeat (first | refine blk_drewN ?_ _ | refine blk_drew ?_ | refine blk_alloc ?_ _)); refine blk_far ?_ NB387_389.out _; (with_reducible repeat (first | refine blk_drewN ?_ _ | refine blk_drew ?_ | refine blk_alloc ?_ _)); exact BK387.out) hb); have n1_ := Aside0.mk (blk_below (g := gb389) (o := .cells #[.int .i64 ((rd_T25 l1 x17_1).f0), .string ((rd_T25 l1 x17_1).f1), .string ((rd_T25 l1 x17_1).f2), .string ((rd_T25 l1 x17_1).f3), .slice A388_4 ((rd_T25 l1 x17_1).f4).length c388_4] 25 (0, 0)) (by (with_reducible repeat (first | refine blk_drewN ?_ _ | refine blk_drew ?_ | refine blk_alloc ?_ _)); refine blk_put (cs := #[.int .i64 ((rd_T25 l1 x17_1).f0), .string ((rd_T25 l1 x17_1).f1), .string ((rd_T25 l1 x17_1).f2), .string ((rd_T25 l1 x17_1).f3), .slice none 0 0]) ?_ 4 _ rfl; (with_reducible repeat (first | refine blk_drewN ?_ _ | refine blk_drew ?_ | refine blk_alloc ?_ _)); refine blk_put (cs := #[.int .i64 ((rd_T25 l1 x17_1).f0), .string ((rd_T25 l1 x17_1).f1), .string ((rd_T25 l1 x17_1).f2), .string (⟨#[]⟩ : ByteArray), .slice none 0 0]) ?_ 3 _ rfl; (with_reducible repeat (first | refine blk_drewN ?_ _ | refine blk_drew ?_ | refine blk_alloc ?_ _)); refine blk_put (cs := #[.int .i64 ((rd_T25 l1 x17_1).f0), .string ((rd_T25 l1 x17_1).f1), .string (⟨#[]⟩ : ByteArray), .string (⟨#[]⟩ : ByteArray), .slice none 0 0]) ?_ 2 _ rfl; (with_reducible repeat (first | refine blk_drewN ?_ _ | refine blk_drew ?_ | refine blk_alloc ?_ _)); refine blk_put (cs := #[.int .i64 ((rd_T25 l1 x17_1).f0), .string (⟨#[]⟩ : ByteArray), .string (⟨#[]⟩ : ByteArray), .string (⟨#[]⟩ : ByteArray), .slice none 0 0]) ?_ 1 _ rfl; (with_reducible repeat (first | refine blk_drewN ?_ _ | refine blk_drew ?_ | refine blk_alloc ?_ _)); refine blk_put (cs := #[.int .i64 0, .string (⟨#[]⟩ : ByteArray), .string (⟨#[]⟩ : ByteArray), .string (⟨#[]⟩ : ByteArray), .slice none 0 0]) ?_ 0 _ rfl; (with_reducible repeat (first | refine blk_drewN ?_ _ | refine blk_drew ?_ | refine blk_alloc ?_ _)); exact BK389.out) hb); have n2_ := Aside0.mk (below_step (by repeat (first | (with_reducible first | exact HB.out | apply below_alloc | apply pw_below_drewN | apply below_drew1 | refine below_set ?_ GE387.out | refine below_set ?_ GE389.out) | exact HB.out)) hb); clear BK387; clear BK389; clear HB; have BK387 := n0_; have BK389 := n1_; have HB := n2_; clear n0_ n1_ n2_; (try clear hb); (try clear hb2); (try clear hk); (try clear hi)))
                  go_roundg k1
                  case measure => have := HK1.out; omega
                  case rel => exact ⟨(wrap64 (x17_1 + 1)), (by first | rfl | (simp; done) | (simp [*]; done)), H', ⟨by have := HK1.out; omega⟩, ⟨by repeat (first | (with_reducible first | exact HB.out | apply below_alloc | apply pw_below_drewN | apply below_drew1 | refine below_set ?_ GE387.out | refine below_set ?_ GE389.out) | exact HB.out)⟩⟩
                · replace c10 := Bool.eq_false_iff.mpr c10
                  subst c10
                  have H1 : (some false) = some r := by rw [if_neg (show ¬ (false = true) by decide)] at H; exact H
                  clear H
                  have H := H1
                  clear H1
                  obtain rfl := Option.some.inj H
                  have p386 : 0 ≤ (x17_1 : Int) := of_decide_eq_true (by first | (with_reducible assumption) | assumption)
                  have q386 : x17_1 < (l0.length : Int) := of_decide_eq_true (by first | (with_reducible assumption) | assumption)
                  obtain ⟨ad386, A386_4, c386_4, e386, hx386_0, hx386_1, hx386_2, hx386_3, hx386_4, hl386_4, hi386_4⟩ := at_T25 HR0.out x17_1 p386 q386
                  cases e386
                  replace hx386_0 := (HB.out.cell (World.block_lt_of_cell? w _ hx386_0)).trans hx386_0
                  replace hx386_1 := (HB.out.cell (World.block_lt_of_cell? w _ hx386_1)).trans hx386_1
                  replace hx386_2 := (HB.out.cell (World.block_lt_of_cell? w _ hx386_2)).trans hx386_2
                  replace hx386_3 := (HB.out.cell (World.block_lt_of_cell? w _ hx386_3)).trans hx386_3
                  replace hx386_4 := (HB.out.cell (World.block_lt_of_cell? w _ hx386_4)).trans hx386_4
                  have HR386_4 := Aside0.mk hi386_4
                  have HC386_4 := Aside0.mk hl386_4
                  clear hi386_4 hl386_4
                  replace p386 := eq_true p386
                  replace q386 := eq_true q386
                  go_wp2_with (first | ((with_reducible refine gate_dst (N := 8) rfl ?_); refine box_event ?hg (N := 8) ?hd (cs := #[.int .i64 0, .string (⟨#[]⟩ : ByteArray), .string (⟨#[]⟩ : ByteArray), .string (⟨#[]⟩ : ByteArray), .slice none 0 0]) (t := 25) ?hr ?_; (case hd => rfl); (case hg => rfl); (case hr => first | (go_simp; done) | (go_simp; rfl)); intro gb387 hg w18 hbox hb; have n0_ := Aside0.mk (below_step (by repeat (first | (with_reducible first | exact HB.out | apply below_alloc | apply pw_below_drewN | apply below_drew1) | exact HB.out)) hb); have n1_ := Aside0.mk (hbox); have n2_ := Aside0.mk ((by rw [hg]; exact (below_size (by repeat (first | (with_reducible first | exact HB.out | apply below_alloc | apply pw_below_drewN | apply below_drew1) | exact HB.out))) : w.heap.size ≤ gb387)); have n3_ := Aside0.mk ((by rw [hg]; exact (below_size (by repeat (first | (with_reducible first | exact HB.out | apply below_alloc | apply pw_below_drewN | apply below_drew1) | exact HB.out))) : w.heap.size ≤ gb387)); clear HB; have HB := n0_; have BK387 := n1_; have GW387 := n2_; have GE387 := n3_; clear n0_ n1_ n2_ n3_; clear hb hbox hg; have hcz19_0 : w18.cell? ⟨gb387, 0, none⟩ = some (.int .i64 0) := (blk_cell BK387.out 0).trans rfl; have hcz19_1 : w18.cell? ⟨gb387, 1, none⟩ = some (.string (⟨#[]⟩ : ByteArray)) := (blk_cell BK387.out 1).trans rfl; have hcz19_2 : w18.cell? ⟨gb387, 2, none⟩ = some (.string (⟨#[]⟩ : ByteArray)) := (blk_cell BK387.out 2).trans rfl; have hcz19_3 : w18.cell? ⟨gb387, 3, none⟩ = some (.string (⟨#[]⟩ : ByteArray)) := (blk_cell BK387.out 3).trans rfl; have hcz19_4 : w18.cell? ⟨gb387, 4, none⟩ = some (.slice none 0 0) := (blk_cell BK387.out 4).trans rfl; have hfz19_0 := blk_frozen BK387.out 0; have hfz19_1 := blk_frozen BK387.out 1; have hfz19_2 := blk_frozen BK387.out 2; have hfz19_3 := blk_frozen BK387.out 3; have hfz19_4 := blk_frozen BK387.out 4; have p388 : 0 ≤ (x17_1 : Int) := of_decide_eq_true (by first | (with_reducible assumption) | assumption); have q388 : x17_1 < (l1.length : Int) := of_decide_eq_true (by first | (with_reducible assumption) | assumption); obtain ⟨ad388, A388_4, c388_4, e388, hx388_0, hx388_1, hx388_2, hx388_3, hx388_4, hl388_4, hi388_4⟩ := at_T25 HR1.out x17_1 p388 q388; cases e388; have hn388_0 : ad388.block ≠ gb387 := Nat.ne_of_lt (Nat.lt_of_lt_of_le (by have := World.block_lt_of_cell? _ _ hx388_0; first | rwa [add_block] at this | exact this) GW387.out); have hn388_1 : ad388.block ≠ gb387 := Nat.ne_of_lt (Nat.lt_of_lt_of_le (by have := World.block_lt_of_cell? _ _ hx388_0; first | rwa [add_block] at this | exact this) GW387.out); have hn388_2 : ad388.block ≠ gb387 := Nat.ne_of_lt (Nat.lt_of_lt_of_le (by have := World.block_lt_of_cell? _ _ hx388_0; first | rwa [add_block] at this | exact this) GW387.out); have hn388_3 : ad388.block ≠ gb387 := Nat.ne_of_lt (Nat.lt_of_lt_of_le (by have := World.block_lt_of_cell? _ _ hx388_0; first | rwa [add_block] at this | exact this) GW387.out); have hn388_4 : ad388.block ≠ gb387 := Nat.ne_of_lt (Nat.lt_of_lt_of_le (by have := World.block_lt_of_cell? _ _ hx388_0; first | rwa [add_block] at this | exact this) GW387.out); replace hx388_0 := (HB.out.cell (World.block_lt_of_cell? w _ hx388_0)).trans hx388_0; replace hx388_1 := (HB.out.cell (World.block_lt_of_cell? w _ hx388_1)).trans hx388_1; replace hx388_2 := (HB.out.cell (World.block_lt_of_cell? w _ hx388_2)).trans hx388_2; replace hx388_3 := (HB.out.cell (World.block_lt_of_cell? w _ hx388_3)).trans hx388_3; replace hx388_4 := (HB.out.cell (World.block_lt_of_cell? w _ hx388_4)).trans hx388_4; have HR388_4 := Aside0.mk hi388_4; have HC388_4 := Aside0.mk hl388_4; clear hi388_4 hl388_4; replace hx388_0 := (cell_far (p := ⟨gb387, 0, none⟩) (by first | (rw [add_block]; exact hn388_0) | (show (Addr.add _ _).block ≠ _; rw [add_block]; exact hn388_0) | exact hn388_0) (.int .i64 ((rd_T25 l0 x17_1).f0))).trans hx388_0; replace hx388_1 := (cell_far (p := ⟨gb387, 0, none⟩) (by first | (rw [add_block]; exact hn388_0) | (show (Addr.add _ _).block ≠ _; rw [add_block]; exact hn388_0) | exact hn388_0) (.int .i64 ((rd_T25 l0 x17_1).f0))).trans hx388_1; replace hx388_2 := (cell_far (p := ⟨gb387, 0, none⟩) (by first | (rw [add_block]; exact hn388_0) | (show (Addr.add _ _).block ≠ _; rw [add_block]; exact hn388_0) | exact hn388_0) (.int .i64 ((rd_T25 l0 x17_1).f0))).trans hx388_2; replace hx388_3 := (cell_far (p := ⟨gb387, 0, none⟩) (by first | (rw [add_block]; exact hn388_0) | (show (Addr.add _ _).block ≠ _; rw [add_block]; exact hn388_0) | exact hn388_0) (.int .i64 ((rd_T25 l0 x17_1).f0))).trans hx388_3; replace hx388_4 := (cell_far (p := ⟨gb387, 0, none⟩) (by first | (rw [add_block]; exact hn388_0) | (show (Addr.add _ _).block ≠ _; rw [add_block]; exact hn388_0) | exact hn388_0) (.int .i64 ((rd_T25 l0 x17_1).f0))).trans hx388_4; replace hx388_0 := (cell_far (p := ⟨gb387, 1, none⟩) (by first | (rw [add_block]; exact hn388_1) | (show (Addr.add _ _).block ≠ _; rw [add_block]; exact hn388_1) | exact hn388_1) (.string ((rd_T25 l0 x17_1).f1))).trans hx388_0; replace hx388_1 := (cell_far (p := ⟨gb387, 1, none⟩) (by first | (rw [add_block]; exact hn388_1) | (show (Addr.add _ _).block ≠ _; rw [add_block]; exact hn388_1) | exact hn388_1) (.string ((rd_T25 l0 x17_1).f1))).trans hx388_1; replace hx388_2 := (cell_far (p := ⟨gb387, 1, none⟩) (by first | (rw [add_block]; exact hn388_1) | (show (Addr.add _ _).block ≠ _; rw [add_block]; exact hn388_1) | exact hn388_1) (.string ((rd_T25 l0 x17_1).f1))).trans hx388_2; replace hx388_3 := (cell_far (p := ⟨gb387, 1, none⟩) (by first | (rw [add_block]; exact hn388_1) | (show (Addr.add _ _).block ≠ _; rw [add_block]; exact hn388_1) | exact hn388_1) (.string ((rd_T25 l0 x17_1).f1))).trans hx388_3; replace hx388_4 := (cell_far (p := ⟨gb387, 1, none⟩) (by first | (rw [add_block]; exact hn388_1) | (show (Addr.add _ _).block ≠ _; rw [add_block]; exact hn388_1) | exact hn388_1) (.string ((rd_T25 l0 x17_1).f1))).trans hx388_4; replace hx388_0 := (cell_far (p := ⟨gb387, 2, none⟩) (by first | (rw [add_block]; exact hn388_2) | (show (Addr.add _ _).block ≠ _; rw [add_block]; exact hn388_2) | exact hn388_2) (.string ((rd_T25 l0 x17_1).f2))).trans hx388_0; replace hx388_1 := (cell_far (p := ⟨gb387, 2, none⟩) (by first | (rw [add_block]; exact hn388_2) | (show (Addr.add _ _).block ≠ _; rw [add_block]; exact hn388_2) | exact hn388_2) (.string ((rd_T25 l0 x17_1).f2))).trans hx388_1; replace hx388_2 := (cell_far (p := ⟨gb387, 2, none⟩) (by first | (rw [add_block]; exact hn388_2) | (show (Addr.add _ _).block ≠ _; rw [add_block]; exact hn388_2) | exact hn388_2) (.string ((rd_T25 l0 x17_1).f2))).trans hx388_2; replace hx388_3 := (cell_far (p := ⟨gb387, 2, none⟩) (by first | (rw [add_block]; exact hn388_2) | (show (Addr.add _ _).block ≠ _; rw [add_block]; exact hn388_2) | exact hn388_2) (.string ((rd_T25 l0 x17_1).f2))).trans hx388_3; replace hx388_4 := (cell_far (p := ⟨gb387, 2, none⟩) (by first | (rw [add_block]; exact hn388_2) | (show (Addr.add _ _).block ≠ _; rw [add_block]; exact hn388_2) | exact hn388_2) (.string ((rd_T25 l0 x17_1).f2))).trans hx388_4; replace hx388_0 := (cell_far (p := ⟨gb387, 3, none⟩) (by first | (rw [add_block]; exact hn388_3) | (show (Addr.add _ _).block ≠ _; rw [add_block]; exact hn388_3) | exact hn388_3) (.string ((rd_T25 l0 x17_1).f3))).trans hx388_0; replace hx388_1 := (cell_far (p := ⟨gb387, 3, none⟩) (by first | (rw [add_block]; exact hn388_3) | (show (Addr.add _ _).block ≠ _; rw [add_block]; exact hn388_3) | exact hn388_3) (.string ((rd_T25 l0 x17_1).f3))).trans hx388_1; replace hx388_2 := (cell_far (p := ⟨gb387, 3, none⟩) (by first | (rw [add_block]; exact hn388_3) | (show (Addr.add _ _).block ≠ _; rw [add_block]; exact hn388_3) | exact hn388_3) (.string ((rd_T25 l0 x17_1).f3))).trans hx388_2; replace hx388_3 := (cell_far (p := ⟨gb387, 3, none⟩) (by first | (rw [add_block]; exact hn388_3) | (show (Addr.add _ _).block ≠ _; rw [add_block]; exact hn388_3) | exact hn388_3) (.string ((rd_T25 l0 x17_1).f3))).trans hx388_3; replace hx388_4 := (cell_far (p := ⟨gb387, 3, none⟩) (by first | (rw [add_block]; exact hn388_3) | (show (Addr.add _ _).block ≠ _; rw [add_block]; exact hn388_3) | exact hn388_3) (.string ((rd_T25 l0 x17_1).f3))).trans hx388_4; replace hx388_0 := (cell_far (p := ⟨gb387, 4, none⟩) (by first | (rw [add_block]; exact hn388_4) | (show (Addr.add _ _).block ≠ _; rw [add_block]; exact hn388_4) | exact hn388_4) (.slice A386_4 ((rd_T25 l0 x17_1).f4).length c386_4)).trans hx388_0; replace hx388_1 := (cell_far (p := ⟨gb387, 4, none⟩) (by first | (rw [add_block]; exact hn388_4) | (show (Addr.add _ _).block ≠ _; rw [add_block]; exact hn388_4) | exact hn388_4) (.slice A386_4 ((rd_T25 l0 x17_1).f4).length c386_4)).trans hx388_1; replace hx388_2 := (cell_far (p := ⟨gb387, 4, none⟩) (by first | (rw [add_block]; exact hn388_4) | (show (Addr.add _ _).block ≠ _; rw [add_block]; exact hn388_4) | exact hn388_4) (.slice A386_4 ((rd_T25 l0 x17_1).f4).length c386_4)).trans hx388_2; replace hx388_3 := (cell_far (p := ⟨gb387, 4, none⟩) (by first | (rw [add_block]; exact hn388_4) | (show (Addr.add _ _).block ≠ _; rw [add_block]; exact hn388_4) | exact hn388_4) (.slice A386_4 ((rd_T25 l0 x17_1).f4).length c386_4)).trans hx388_3; replace hx388_4 := (cell_far (p := ⟨gb387, 4, none⟩) (by first | (rw [add_block]; exact hn388_4) | (show (Addr.add _ _).block ≠ _; rw [add_block]; exact hn388_4) | exact hn388_4) (.slice A386_4 ((rd_T25 l0 x17_1).f4).length c386_4)).trans hx388_4; clear hn388_0; clear hn388_1; clear hn388_2; clear hn388_3; clear hn388_4; replace p388 := eq_true p388; replace q388 := eq_true q388) | ((with_reducible refine gate_dst (N := 9) rfl ?_); refine box_event ?hg (N := 9) ?hd (cs := #[.int .i64 0, .string (⟨#[]⟩ : ByteArray), .string (⟨#[]⟩ : ByteArray), .string (⟨#[]⟩ : ByteArray), .slice none 0 0]) (t := 25) ?hr ?_; (case hd => rfl); (case hg => rfl); (case hr => first | (go_simp; done) | (go_simp; rfl)); intro gb389 hg w20 hbox hb; have n0_ := Aside0.mk (blk_below (g := gb387) (o := .cells #[.int .i64 ((rd_T25 l0 x17_1).f0), .string ((rd_T25 l0 x17_1).f1), .string ((rd_T25 l0 x17_1).f2), .string ((rd_T25 l0 x17_1).f3), .slice A386_4 ((rd_T25 l0 x17_1).f4).length c386_4] 25 (0, 0)) (by (with_reducible repeat (first | refine blk_drewN ?_ _ | refine blk_drew ?_ | refine blk_alloc ?_ _)); refine blk_put (cs := #[.int .i64 ((rd_T25 l0 x17_1).f0), .string ((rd_T25 l0 x17_1).f1), .string ((rd_T25 l0 x17_1).f2), .string ((rd_T25 l0 x17_1).f3), .slice none 0 0]) ?_ 4 _ rfl; (with_reducible repeat (first | refine blk_drewN ?_ _ | refine blk_drew ?_ | refine blk_alloc ?_ _)); refine blk_put (cs := #[.int .i64 ((rd_T25 l0 x17_1).f0), .string ((rd_T25 l0 x17_1).f1), .string ((rd_T25 l0 x17_1).f2), .string (⟨#[]⟩ : ByteArray), .slice none 0 0]) ?_ 3 _ rfl; (with_reducible repeat (first | refine blk_drewN ?_ _ | refine blk_drew ?_ | refine blk_alloc ?_ _)); refine blk_put (cs := #[.int .i64 ((rd_T25 l0 x17_1).f0), .string ((rd_T25 l0 x17_1).f1), .string (⟨#[]⟩ : ByteArray), .string (⟨#[]⟩ : ByteArray), .slice none 0 0]) ?_ 2 _ rfl; (with_reducible repeat (first | refine blk_drewN ?_ _ | refine blk_drew ?_ | refine blk_alloc ?_ _)); refine blk_put (cs := #[.int .i64 ((rd_T25 l0 x17_1).f0), .string (⟨#[]⟩ : ByteArray), .string (⟨#[]⟩ : ByteArray), .string (⟨#[]⟩ : ByteArray), .slice none 0 0]) ?_ 1 _ rfl; (with_reducible repeat (first | refine blk_drewN ?_ _ | refine blk_drew ?_ | refine blk_alloc ?_ _)); refine blk_put (cs := #[.int .i64 0, .string (⟨#[]⟩ : ByteArray), .string (⟨#[]⟩ : ByteArray), .string (⟨#[]⟩ : ByteArray), .slice none 0 0]) ?_ 0 _ rfl; (with_reducible repeat (first | refine blk_drewN ?_ _ | refine blk_drew ?_ | refine blk_alloc ?_ _)); exact BK387.out) hb); have n1_ := Aside0.mk (below_step (by repeat (first | (with_reducible first | exact HB.out | apply below_alloc | apply pw_below_drewN | apply below_drew1 | refine below_set ?_ GE387.out) | exact HB.out)) hb); have n2_ := Aside0.mk (hbox); have n3_ := Aside0.mk ((by rw [hg]; exact (below_size (by repeat (first | (with_reducible first | exact HB.out | apply below_alloc | apply pw_below_drewN | apply below_drew1 | refine below_set ?_ GE387.out) | exact HB.out))) : w.heap.size ≤ gb389)); have n4_ := Aside0.mk ((by rw [hg]; exact (below_size (by repeat (first | (with_reducible first | exact HB.out | apply below_alloc | apply pw_below_drewN | apply below_drew1 | refine below_set ?_ GE387.out) | exact HB.out))) : w.heap.size ≤ gb389)); have n5_ := Aside0.mk ((by rw [hg]; exact Nat.ne_of_lt (blk_lt (g := gb387) (o := .cells #[.int .i64 ((rd_T25 l0 x17_1).f0), .string ((rd_T25 l0 x17_1).f1), .string ((rd_T25 l0 x17_1).f2), .string ((rd_T25 l0 x17_1).f3), .slice A386_4 ((rd_T25 l0 x17_1).f4).length c386_4] 25 (0, 0)) (by (with_reducible repeat (first | refine blk_drewN ?_ _ | refine blk_drew ?_ | refine blk_alloc ?_ _)); refine blk_put (cs := #[.int .i64 ((rd_T25 l0 x17_1).f0), .string ((rd_T25 l0 x17_1).f1), .string ((rd_T25 l0 x17_1).f2), .string ((rd_T25 l0 x17_1).f3), .slice none 0 0]) ?_ 4 _ rfl; (with_reducible repeat (first | refine blk_drewN ?_ _ | refine blk_drew ?_ | refine blk_alloc ?_ _)); refine blk_put (cs := #[.int .i64 ((rd_T25 l0 x17_1).f0), .string ((rd_T25 l0 x17_1).f1), .string ((rd_T25 l0 x17_1).f2), .string (⟨#[]⟩ : ByteArray), .slice none 0 0]) ?_ 3 _ rfl; (with_reducible repeat (first | refine blk_drewN ?_ _ | refine blk_drew ?_ | refine blk_alloc ?_ _)); refine blk_put (cs := #[.int .i64 ((rd_T25 l0 x17_1).f0), .string ((rd_T25 l0 x17_1).f1), .string (⟨#[]⟩ : ByteArray), .string (⟨#[]⟩ : ByteArray), .slice none 0 0]) ?_ 2 _ rfl; (with_reducible repeat (first | refine blk_drewN ?_ _ | refine blk_drew ?_ | refine blk_alloc ?_ _)); refine blk_put (cs := #[.int .i64 ((rd_T25 l0 x17_1).f0), .string (⟨#[]⟩ : ByteArray), .string (⟨#[]⟩ : ByteArray), .string (⟨#[]⟩ : ByteArray), .slice none 0 0]) ?_ 1 _ rfl; (with_reducible repeat (first | refine blk_drewN ?_ _ | refine blk_drew ?_ | refine blk_alloc ?_ _)); refine blk_put (cs := #[.int .i64 0, .string (⟨#[]⟩ : ByteArray), .string (⟨#[]⟩ : ByteArray), .string (⟨#[]⟩ : ByteArray), .slice none 0 0]) ?_ 0 _ rfl; (with_reducible repeat (first | refine blk_drewN ?_ _ | refine blk_drew ?_ | refine blk_alloc ?_ _)); exact BK387.out)) : gb387 ≠ gb389)); have n6_ := Aside0.mk ((by rw [hg]; exact Nat.ne_of_gt (blk_lt (g := gb387) (o := .cells #[.int .i64 ((rd_T25 l0 x17_1).f0), .string ((rd_T25 l0 x17_1).f1), .string ((rd_T25 l0 x17_1).f2), .string ((rd_T25 l0 x17_1).f3), .slice A386_4 ((rd_T25 l0 x17_1).f4).length c386_4] 25 (0, 0)) (by (with_reducible repeat (first | refine blk_drewN ?_ _ | refine blk_drew ?_ | refine blk_alloc ?_ _)); refine blk_put (cs := #[.int .i64 ((rd_T25 l0 x17_1).f0), .string ((rd_T25 l0 x17_1).f1), .string ((rd_T25 l0 x17_1).f2), .string ((rd_T25 l0 x17_1).f3), .slice none 0 0]) ?_ 4 _ rfl; (with_reducible repeat (first | refine blk_drewN ?_ _ | refine blk_drew ?_ | refine blk_alloc ?_ _)); refine blk_put (cs := #[.int .i64 ((rd_T25 l0 x17_1).f0), .string ((rd_T25 l0 x17_1).f1), .string ((rd_T25 l0 x17_1).f2), .string (⟨#[]⟩ : ByteArray), .slice none 0 0]) ?_ 3 _ rfl; (with_reducible repeat (first | refine blk_drewN ?_ _ | refine blk_drew ?_ | refine blk_alloc ?_ _)); refine blk_put (cs := #[.int .i64 ((rd_T25 l0 x17_1).f0), .string ((rd_T25 l0 x17_1).f1), .string (⟨#[]⟩ : ByteArray), .string (⟨#[]⟩ : ByteArray), .slice none 0 0]) ?_ 2 _ rfl; (with_reducible repeat (first | refine blk_drewN ?_ _ | refine blk_drew ?_ | refine blk_alloc ?_ _)); refine blk_put (cs := #[.int .i64 ((rd_T25 l0 x17_1).f0), .string (⟨#[]⟩ : ByteArray), .string (⟨#[]⟩ : ByteArray), .string (⟨#[]⟩ : ByteArray), .slice none 0 0]) ?_ 1 _ rfl; (with_reducible repeat (first | refine blk_drewN ?_ _ | refine blk_drew ?_ | refine blk_alloc ?_ _)); refine blk_put (cs := #[.int .i64 0, .string (⟨#[]⟩ : ByteArray), .string (⟨#[]⟩ : ByteArray), .string (⟨#[]⟩ : ByteArray), .slice none 0 0]) ?_ 0 _ rfl; (with_reducible repeat (first | refine blk_drewN ?_ _ | refine blk_drew ?_ | refine blk_alloc ?_ _)); exact BK387.out)) : gb389 ≠ gb387)); clear BK387; clear HB; have BK387 := n0_; have HB := n1_; have BK389 := n2_; have GW389 := n3_; have GE389 := n4_; have NB387_389 := n5_; have NB389_387 := n6_; clear n0_ n1_ n2_ n3_ n4_ n5_ n6_; clear hb hbox hg; have hnb21 := NB389_387.out; have hnc21 := NB387_389.out; have hcz22_0 : w20.cell? ⟨gb389, 0, none⟩ = some (.int .i64 0) := (blk_cell BK389.out 0).trans rfl; have hcz22_1 : w20.cell? ⟨gb389, 1, none⟩ = some (.string (⟨#[]⟩ : ByteArray)) := (blk_cell BK389.out 1).trans rfl; have hcz22_2 : w20.cell? ⟨gb389, 2, none⟩ = some (.string (⟨#[]⟩ : ByteArray)) := (blk_cell BK389.out 2).trans rfl; have hcz22_3 : w20.cell? ⟨gb389, 3, none⟩ = some (.string (⟨#[]⟩ : ByteArray)) := (blk_cell BK389.out 3).trans rfl; have hcz22_4 : w20.cell? ⟨gb389, 4, none⟩ = some (.slice none 0 0) := (blk_cell BK389.out 4).trans rfl; have hfz22_0 := blk_frozen BK389.out 0; have hfz22_1 := blk_frozen BK389.out 1; have hfz22_2 := blk_frozen BK389.out 2; have hfz22_3 := blk_frozen BK389.out 3; have hfz22_4 := blk_frozen BK389.out 4; have hcz23_0 : w20.cell? ⟨gb387, 0, none⟩ = some (.int .i64 ((rd_T25 l0 x17_1).f0)) := (blk_cell BK387.out 0).trans rfl; have hcz23_1 : w20.cell? ⟨gb387, 1, none⟩ = some (.string ((rd_T25 l0 x17_1).f1)) := (blk_cell BK387.out 1).trans rfl; have hcz23_2 : w20.cell? ⟨gb387, 2, none⟩ = some (.string ((rd_T25 l0 x17_1).f2)) := (blk_cell BK387.out 2).trans rfl; have hcz23_3 : w20.cell? ⟨gb387, 3, none⟩ = some (.string ((rd_T25 l0 x17_1).f3)) := (blk_cell BK387.out 3).trans rfl; have hcz23_4 : w20.cell? ⟨gb387, 4, none⟩ = some (.slice A386_4 ((rd_T25 l0 x17_1).f4).length c386_4) := (blk_cell BK387.out 4).trans rfl; have hfz23_0 := blk_frozen BK387.out 0; have hfz23_1 := blk_frozen BK387.out 1; have hfz23_2 := blk_frozen BK387.out 2; have hfz23_3 := blk_frozen BK387.out 3; have hfz23_4 := blk_frozen BK387.out 4) | ((with_reducible refine gate_calleeT rfl ?_); refine goesLT_ (some 29) rfl rfl Try.func46 (by kernel_rfl) rfl #[.agg #[.int .i64 ((rd_T25 l0 x17_1).f0), .string ((rd_T25 l0 x17_1).f1), .string ((rd_T25 l0 x17_1).f2), .string ((rd_T25 l0 x17_1).f3), .slice A386_4 ((rd_T25 l0 x17_1).f4).length c386_4], .agg #[.int .i64 ((rd_T25 l1 x17_1).f0), .string ((rd_T25 l1 x17_1).f1), .string ((rd_T25 l1 x17_1).f2), .string ((rd_T25 l1 x17_1).f3), .slice A388_4 ((rd_T25 l1 x17_1).f4).length c388_4]] rfl (by (try simp only [List.map_toArray, List.map_cons, List.map_nil]); first | done | rfl | (simp only [List.length_drop, List.length_take]; rfl)) ?_; (with_reducible refine (tree_Same_1.calls k1 ((rd_T25 l0 x17_1).f0) ((rd_T25 l0 x17_1).f1) ((rd_T25 l0 x17_1).f2) ((rd_T25 l0 x17_1).f3) _ _ ((rd_T25 l0 x17_1).f4) ((rd_T25 l1 x17_1).f0) ((rd_T25 l1 x17_1).f1) ((rd_T25 l1 x17_1).f2) ((rd_T25 l1 x17_1).f3) _ _ ((rd_T25 l1 x17_1).f4) false _ ?side1 ?side2 ?side3 ?side4 A9.out).mono ?_); (case side1 => exact Kd.C_below HR386_4.out (by repeat (first | (with_reducible first | exact HB.out | apply below_alloc | apply pw_below_drewN | apply below_drew1 | refine below_set ?_ GE387.out | refine below_set ?_ GE389.out) | exact HB.out))); (case side2 => exact HC386_4.out); (case side3 => exact Kd.C_below HR388_4.out (by repeat (first | (with_reducible first | exact HB.out | apply below_alloc | apply pw_below_drewN | apply below_drew1 | refine below_set ?_ GE387.out | refine below_set ?_ GE389.out) | exact HB.out))); (case side4 => exact HC388_4.out); rintro e w24 ⟨rfl, hb⟩; refine ⟨_, rfl, ?_⟩; have n0_ := Aside0.mk (blk_below (g := gb387) (o := .cells #[.int .i64 ((rd_T25 l0 x17_1).f0), .string ((rd_T25 l0 x17_1).f1), .string ((rd_T25 l0 x17_1).f2), .string ((rd_T25 l0 x17_1).f3), .slice A386_4 ((rd_T25 l0 x17_1).f4).length c386_4] 25 (0, 0)) (by (with_reducible repeat (first | refine blk_drewN ?_ _ | refine blk_drew ?_ | refine blk_alloc ?_ _)); refine blk_far ?_ NB387_389.out _; (with_reducible repeat (first | refine blk_drewN ?_ _ | refine blk_drew ?_ | refine blk_alloc ?_ _)); refine blk_far ?_ NB387_389.out _; (with_reducible repeat (first | refine blk_drewN ?_ _ | refine blk_drew ?_ | refine blk_alloc ?_ _)); refine blk_far ?_ NB387_389.out _; (with_reducible repeat (first | refine blk_drewN ?_ _ | refine blk_drew ?_ | refine blk_alloc ?_ _)); refine blk_far ?_ NB387_389.out _; (with_reducible repeat (first | refine blk_drewN ?_ _ | refine blk_drew ?_ | refine blk_alloc ?_ _)); refine blk_far ?_ NB387_389.out _; (with_reducible repeat (first | refine blk_drewN ?_ _ | refine blk_drew ?_ | refine blk_alloc ?_ _)); exact BK387.out) hb); have n1_ := Aside0.mk (blk_below (g := gb389) (o := .cells #[.int .i64 ((rd_T25 l1 x17_1).f0), .string ((rd_T25 l1 x17_1).f1), .string ((rd_T25 l1 x17_1).f2), .string ((rd_T25 l1 x17_1).f3), .slice A388_4 ((rd_T25 l1 x17_1).f4).length c388_4] 25 (0, 0)) (by (with_reducible repeat (first | refine blk_drewN ?_ _ | refine blk_drew ?_ | refine blk_alloc ?_ _)); refine blk_put (cs := #[.int .i64 ((rd_T25 l1 x17_1).f0), .string ((rd_T25 l1 x17_1).f1), .string ((rd_T25 l1 x17_1).f2), .string ((rd_T25 l1 x17_1).f3), .slice none 0 0]) ?_ 4 _ rfl; (with_reducible repeat (first | refine blk_drewN ?_ _ | refine blk_drew ?_ | refine blk_alloc ?_ _)); refine blk_put (cs := #[.int .i64 ((rd_T25 l1 x17_1).f0), .string ((rd_T25 l1 x17_1).f1), .string ((rd_T25 l1 x17_1).f2), .string (⟨#[]⟩ : ByteArray), .slice none 0 0]) ?_ 3 _ rfl; (with_reducible repeat (first | refine blk_drewN ?_ _ | refine blk_drew ?_ | refine blk_alloc ?_ _)); refine blk_put (cs := #[.int .i64 ((rd_T25 l1 x17_1).f0), .string ((rd_T25 l1 x17_1).f1), .string (⟨#[]⟩ : ByteArray), .string (⟨#[]⟩ : ByteArray), .slice none 0 0]) ?_ 2 _ rfl; (with_reducible repeat (first | refine blk_drewN ?_ _ | refine blk_drew ?_ | refine blk_alloc ?_ _)); refine blk_put (cs := #[.int .i64 ((rd_T25 l1 x17_1).f0), .string (⟨#[]⟩ : ByteArray), .string (⟨#[]⟩ : ByteArray), .string (⟨#[]⟩ : ByteArray), .slice none 0 0]) ?_ 1 _ rfl; (with_reducible repeat (first | refine blk_drewN ?_ _ | refine blk_drew ?_ | refine blk_alloc ?_ _)); refine blk_put (cs := #[.int .i64 0, .string (⟨#[]⟩ : ByteArray), .string (⟨#[]⟩ : ByteArray), .string (⟨#[]⟩ : ByteArray), .slice none 0 0]) ?_ 0 _ rfl; (with_reducible repeat (first | refine blk_drewN ?_ _ | refine blk_drew ?_ | refine blk_alloc ?_ _)); exact BK389.out) hb); have n2_ := Aside0.mk (below_step (by repeat (first | (with_reducible first | exact HB.out | apply below_alloc | apply pw_below_drewN | apply below_drew1 | refine below_set ?_ GE387.out | refine below_set ?_ GE389.out) | exact HB.out)) hb); clear BK387; clear BK389; clear HB; have BK387 := n0_; have BK389 := n1_; have HB := n2_; clear n0_ n1_ n2_; (try clear hb); (try clear hb2); (try clear hk); (try clear hi)))
                  go_ret
                  exact ⟨by first | rfl | (simp [errW_none, errW_some] <;> rfl) | (simp [*, errW_none, errW_some] <;> rfl), by repeat (first | (with_reducible first | exact HB.out | apply below_alloc | apply pw_below_drewN | apply below_drew1 | refine below_set ?_ GE387.out | refine below_set ?_ GE389.out) | exact HB.out)⟩
              · rw [if_neg c8] at H
                exact absurd H (by simp)
            · rw [if_neg c7] at H
              exact absurd H (by simp)
          · rw [if_neg c6] at H
            exact absurd H (by simp)
        · rw [if_neg c5] at H
          have c5b0 : decide (x17_1 < (l0.length : Int)) = false := decide_eq_false c5
          clear c5
          obtain rfl := Option.some.inj H
          go_wp2
          go_ret
          exact ⟨by first | rfl | (simp [errW_none, errW_some] <;> rfl) | (simp [*, errW_none, errW_some] <;> rfl), by repeat (first | (with_reducible first | exact HB.out | apply below_alloc | apply pw_below_drewN | apply below_drew1) | exact HB.out)⟩
  · rw [if_neg c4] at H
    have c4b0 : ((l0.length : Int) == (l1.length : Int)) = false := beq_eq_false_iff_ne.mpr c4
    have c4b1 : ((l0.length : Int) != (l1.length : Int)) = true := bne_iff_ne.mpr c4
    have c4b2 : (l0.length == l1.length) = false := by first | simpa using c4 | (simp at c4 ⊢; omega)
    obtain rfl := Option.some.inj H
    go_enter Try.func45, Try.ntmps45
    go_wp2
    go_ret
    exact ⟨by first | rfl | (simp [errW_none, errW_some] <;> rfl) | (simp [*, errW_none, errW_some] <;> rfl), by repeat (first | (with_reducible first | exact HB.out | apply below_alloc | apply pw_below_drewN | apply below_drew1) | exact HB.out)⟩
def tree_Same.f (k : Nat) (l0 : List (S25)) (l1 : List (S25)) : Option (Bool) := (api_Node_45.f k l0 l1).bind fun t391 => (some t391)
theorem tree_Same.mono : ∀ a0 a1 k, LeO (tree_Same.f k a0 a1) (tree_Same.f (k + 1) a0 a1) := by
  intro a0 a1 k
  unfold tree_Same.f
  repeat' first
      | (with_reducible exact api_Node_45.mono _ _ _)
      | (with_reducible exact LeO.refl _)
      | (with_reducible exact LeO.none _)
      | (with_reducible refine LeO.ite ?_ ?_)
      | (with_reducible refine LeO.bind ?_ (fun _ => ?_))
      | exact api_Node_45.mono _ _ _
      | exact LeO.none _
      | refine LeO.ite ?_ ?_
      | refine LeO.bind ?_ (fun _ => ?_)
set_option maxHeartbeats 8000000 in
set_option maxRecDepth 100000 in
theorem tree_Same.calls (k : Nat) (A0 : Option Addr) (c0 : Nat) (l0 : List (S25)) (A1 : Option Addr) (c1 : Nat) (l1 : List (S25)) (r : Bool) (w : World) (hr0 : Kd.C k25 w A0 l0.length l0) (hc0 : l0.length ≤ c0) (hr1 : Kd.C k25 w A1 l1.length l1) (hc1 : l1.length ≤ c1) (h : tree_Same.f k l0 l1 = some r) :
    Calls Try.prog 30 #[.slice A0 l0.length c0, .slice A1 l1.length c1] w fun e w' => e = .returned (.bool r) ∧ Below w.heap.size w w' := by
  have HR0 := Aside0.mk hr0
  have HC0 := Aside0.mk hc0
  clear hr0 hc0
  have HR1 := Aside0.mk hr1
  have HC1 := Aside0.mk hc1
  clear hr1 hc1
  have HB := Aside0.mk (Below.refl w.heap.size w)
  have H : ((api_Node_45.f k l0 l1).bind fun t391 => (some t391)) = some r := h
  clear h
  replace H := Option.bind_eq_some_iff.mp H
  obtain ⟨t391, A30, H⟩ := H
  replace H : (some t391) = some r := H
  have A3 := Aside0.mk A30
  clear A30
  obtain rfl := Option.some.inj H
  go_enter Try.func30, Try.ntmps30
  go_wp2_with (first | ((with_reducible refine gate_callee (f := 45) rfl ?_); refine goesL_ (some 7) rfl rfl Try.func45 (by kernel_rfl) rfl #[.slice A0 l0.length c0, .slice A1 l1.length c1, .func (.func 46) #[] #[]] rfl (by (try simp only [List.map_toArray, List.map_cons, List.map_nil]); first | done | rfl | (simp only [List.length_drop, List.length_take]; rfl)) ?_; (with_reducible refine (api_Node_45.calls k _ _ l0 _ _ l1  t391 _ ?side1 ?side2 ?side3 ?side4 A3.out).mono ?_); (case side1 => repeat (first | exact HR0.out | (with_reducible refine Kd.C_alloc ?_ _) | (with_reducible refine Kd.C_drewN ?_ _) | (with_reducible refine Kd.C_drew ?_))); (case side2 => exact HC0.out); (case side3 => repeat (first | exact HR1.out | (with_reducible refine Kd.C_alloc ?_ _) | (with_reducible refine Kd.C_drewN ?_ _) | (with_reducible refine Kd.C_drew ?_))); (case side4 => exact HC1.out); rintro e w4 ⟨rfl, hb⟩; refine ⟨_, rfl, ?_⟩; have n0_ := Aside0.mk (below_step (by repeat (first | (with_reducible first | exact HB.out | apply below_alloc | apply pw_below_drewN | apply below_drew1) | exact HB.out)) hb); clear HB; have HB := n0_; clear n0_; (try clear hb); (try clear hb2); (try clear hk); (try clear hi)))
  go_ret
  exact ⟨by first | rfl | (simp [errW_none, errW_some] <;> rfl) | (simp [*, errW_none, errW_some] <;> rfl), by repeat (first | (with_reducible first | exact HB.out | apply below_alloc | apply pw_below_drewN | apply below_drew1) | exact HB.out)⟩
end Go.Proofs.Ytdelccahgchadaa.P
end
section
namespace Go.Proofs.Ytdelccahgchadaa.P
open Go.RowKit Go.Proofs.YtdelccahgchadaaW.PrintWords Go.Proofs.YtdelccahgchadaaW.PrintLast Go.Proofs.YtdelccahgchadaaW.PrintMore
attribute [local go_sem] max2_int min2_int max_two min_two max_three min_three max_four min_four   
set_option linter.unusedVariables false
set_option linter.unusedSimpArgs false
mutual
def reredoslaw08_TreeParts.j0 : Nat → List (S25) → Bool → Bool → Option (Bool)
  | 0, _, _, _ => none
  | k + 1, x0, x3, x22 => if x22 = true then (some x3) else ((tree_Under.f k x0 0).bind fun t439 => (if 0 < (x0.length : Int) then ((tree_Node.f k ((rd_T25 x0 0).f0) ((rd_T25 x0 0).f1) ((rd_T25 x0 0).f2) ((rd_T25 x0 0).f3) ((rd_T25 x0 0).f4) ([] : List (List (S25)))).bind fun t443 => (reredoslaw08_TreeParts.l0 k x0 x3 t439 t443 0)) else (none)))
def reredoslaw08_TreeParts.l0 : Nat → List (S25) → Bool → List Int → List (S25) → Int → Option (Bool)
  | 0, _, _, _, _, _ => none
  | k + 1, x0, x3, x4, x5, x6 => if x6 < (x4.length : Int) then (if 0 ≤ x6 then (if (rd x4 x6) < 1 then (reredoslaw08_TreeParts.j2 k x0 x3 x4 x5 x6 true) else (reredoslaw08_TreeParts.j2 k x0 x3 x4 x5 x6 (decide ((rd x4 x6) ≥ (x0.length : Int))))) else (none)) else (if x3 = true then ((tree_Same.f k x5 x0).bind fun t446 => (if t446 = true then (if 0 < (x0.length : Int) then ((tree_Kids.f k ((rd_T25 x0 0).f0) ((rd_T25 x0 0).f1) ((rd_T25 x0 0).f2) ((rd_T25 x0 0).f3) ((rd_T25 x0 0).f4)).bind fun t448 => (some ((x4.length : Int) == t448))) else (none)) else (none))) else (none))
def reredoslaw08_TreeParts.j2 : Nat → List (S25) → Bool → List Int → List (S25) → Int → Bool → Option (Bool)
  | 0, _, _, _, _, _, _ => none
  | k + 1, x0, x3, x4, x5, x6, x49 => if x49 = true then (none) else (if 0 ≤ x6 then (if x6 < (x4.length : Int) then ((tree_End.f k x0 (rd x4 x6)).bind fun bt452 => (if bt452.2 = true then (if bt452.1 ≤ (rd x4 x6) then (none) else (if bt452.1 > (x0.length : Int) then (none) else (if 0 ≤ (rd x4 x6) then (if (rd x4 x6) ≤ bt452.1 then (if bt452.1 ≤ (x0.length : Int) then ((tree_May.f k ((x0.take (bt452.1 : Int).toNat).drop ((rd x4 x6) : Int).toNat)).bind fun t461 => (if t461 = true then ((tree_Depth.f k ((x0.take (bt452.1 : Int).toNat).drop ((rd x4 x6) : Int).toNat)).bind fun t468 => ((tree_Depth.f k x0).bind fun t469 => (if t468 ≥ t469 then (none) else ((some ((x0.take (bt452.1 : Int).toNat).drop ((rd x4 x6) : Int).toNat : List (S25))).bind fun y471 => (if x5.length + y471.length < 1759218604441 then (reredoslaw08_TreeParts.l0 k x0 x3 x4 (x5 ++ y471) (wrap64 (x6 + 1))) else (none)))))) else (none))) else (none)) else (none)) else (none)))) else (none))) else (none)) else (none))
end
def reredoslaw08_TreeParts.f (k : Nat) (l0 : List (S25)) : Option (Bool) := (reredoslaw08_shown.f k).bind fun t436 => ((reredosref08_Few.f k l0).bind fun t437 => (if t437 = true then ((tree_May.f k l0).bind fun t438 => (if t438 = true then (reredoslaw08_TreeParts.j0 k l0 t436 ((l0.length : Int) == 0)) else (reredoslaw08_TreeParts.j0 k l0 t436 true))) else (reredoslaw08_TreeParts.j0 k l0 t436 true)))
theorem reredoslaw08_TreeParts.mono_l : ∀ k, (∀ y0 y1 y2, LeO (reredoslaw08_TreeParts.j0 k y0 y1 y2) (reredoslaw08_TreeParts.j0 (k + 1) y0 y1 y2)) ∧ (∀ y0 y1 y2 y3 y4, LeO (reredoslaw08_TreeParts.l0 k y0 y1 y2 y3 y4) (reredoslaw08_TreeParts.l0 (k + 1) y0 y1 y2 y3 y4)) ∧ (∀ y0 y1 y2 y3 y4 y5, LeO (reredoslaw08_TreeParts.j2 k y0 y1 y2 y3 y4 y5) (reredoslaw08_TreeParts.j2 (k + 1) y0 y1 y2 y3 y4 y5))
  | 0 => ⟨fun _ _ _ r h => by simp [reredoslaw08_TreeParts.j0] at h, fun _ _ _ _ _ r h => by simp [reredoslaw08_TreeParts.l0] at h, fun _ _ _ _ _ _ r h => by simp [reredoslaw08_TreeParts.j2] at h⟩
  | k + 1 => by
    obtain ⟨ih0, ih1, ih2⟩ := reredoslaw08_TreeParts.mono_l k
    refine ⟨?_, ?_, ?_⟩
    · intro y0 y1 y2
      unfold reredoslaw08_TreeParts.j0
      repeat' first
      | (with_reducible exact ih0 _ _ _)
      | (with_reducible exact ih1 _ _ _ _ _)
      | (with_reducible exact ih2 _ _ _ _ _ _)
      | (with_reducible exact reredoslaw08_shown.mono _)
      | (with_reducible exact reredosref08_Few.mono _ _)
      | (with_reducible exact tree_Depth.mono _ _)
      | (with_reducible exact tree_End.mono _ _ _)
      | (with_reducible exact tree_Kids.mono _ _ _ _ _ _)
      | (with_reducible exact tree_May.mono _ _)
      | (with_reducible exact tree_Node.mono _ _ _ _ _ _ _)
      | (with_reducible exact tree_Same.mono _ _ _)
      | (with_reducible exact tree_Under.mono _ _ _)
      | (with_reducible exact LeO.refl _)
      | (with_reducible exact LeO.none _)
      | (with_reducible refine LeO.ite ?_ ?_)
      | (with_reducible refine LeO.bind ?_ (fun _ => ?_))
      | exact ih0 _ _ _
      | exact ih1 _ _ _ _ _
      | exact ih2 _ _ _ _ _ _
      | exact reredoslaw08_shown.mono _
      | exact reredosref08_Few.mono _ _
      | exact tree_Depth.mono _ _
      | exact tree_End.mono _ _ _
      | exact tree_Kids.mono _ _ _ _ _ _
      | exact tree_May.mono _ _
      | exact tree_Node.mono _ _ _ _ _ _ _
      | exact tree_Same.mono _ _ _
      | exact tree_Under.mono _ _ _
      | exact LeO.none _
      | refine LeO.ite ?_ ?_
      | refine LeO.bind ?_ (fun _ => ?_)
    · intro y0 y1 y2 y3 y4
      unfold reredoslaw08_TreeParts.l0
      repeat' first
      | (with_reducible exact ih0 _ _ _)
      | (with_reducible exact ih1 _ _ _ _ _)
      | (with_reducible exact ih2 _ _ _ _ _ _)
      | (with_reducible exact reredoslaw08_shown.mono _)
      | (with_reducible exact reredosref08_Few.mono _ _)
      | (with_reducible exact tree_Depth.mono _ _)
      | (with_reducible exact tree_End.mono _ _ _)
      | (with_reducible exact tree_Kids.mono _ _ _ _ _ _)
      | (with_reducible exact tree_May.mono _ _)
      | (with_reducible exact tree_Node.mono _ _ _ _ _ _ _)
      | (with_reducible exact tree_Same.mono _ _ _)
      | (with_reducible exact tree_Under.mono _ _ _)
      | (with_reducible exact LeO.refl _)
      | (with_reducible exact LeO.none _)
      | (with_reducible refine LeO.ite ?_ ?_)
      | (with_reducible refine LeO.bind ?_ (fun _ => ?_))
      | exact ih0 _ _ _
      | exact ih1 _ _ _ _ _
      | exact ih2 _ _ _ _ _ _
      | exact reredoslaw08_shown.mono _
      | exact reredosref08_Few.mono _ _
      | exact tree_Depth.mono _ _
      | exact tree_End.mono _ _ _
      | exact tree_Kids.mono _ _ _ _ _ _
      | exact tree_May.mono _ _
      | exact tree_Node.mono _ _ _ _ _ _ _
      | exact tree_Same.mono _ _ _
      | exact tree_Under.mono _ _ _
      | exact LeO.none _
      | refine LeO.ite ?_ ?_
      | refine LeO.bind ?_ (fun _ => ?_)
    · intro y0 y1 y2 y3 y4 y5
      unfold reredoslaw08_TreeParts.j2
      repeat' first
      | (with_reducible exact ih0 _ _ _)
      | (with_reducible exact ih1 _ _ _ _ _)
      | (with_reducible exact ih2 _ _ _ _ _ _)
      | (with_reducible exact reredoslaw08_shown.mono _)
      | (with_reducible exact reredosref08_Few.mono _ _)
      | (with_reducible exact tree_Depth.mono _ _)
      | (with_reducible exact tree_End.mono _ _ _)
      | (with_reducible exact tree_Kids.mono _ _ _ _ _ _)
      | (with_reducible exact tree_May.mono _ _)
      | (with_reducible exact tree_Node.mono _ _ _ _ _ _ _)
      | (with_reducible exact tree_Same.mono _ _ _)
      | (with_reducible exact tree_Under.mono _ _ _)
      | (with_reducible exact LeO.refl _)
      | (with_reducible exact LeO.none _)
      | (with_reducible refine LeO.ite ?_ ?_)
      | (with_reducible refine LeO.bind ?_ (fun _ => ?_))
      | exact ih0 _ _ _
      | exact ih1 _ _ _ _ _
      | exact ih2 _ _ _ _ _ _
      | exact reredoslaw08_shown.mono _
      | exact reredosref08_Few.mono _ _
      | exact tree_Depth.mono _ _
      | exact tree_End.mono _ _ _
      | exact tree_Kids.mono _ _ _ _ _ _
      | exact tree_May.mono _ _
      | exact tree_Node.mono _ _ _ _ _ _ _
      | exact tree_Same.mono _ _ _
      | exact tree_Under.mono _ _ _
      | exact LeO.none _
      | refine LeO.ite ?_ ?_
      | refine LeO.bind ?_ (fun _ => ?_)
theorem reredoslaw08_TreeParts.mono : ∀ a0 k, LeO (reredoslaw08_TreeParts.f k a0) (reredoslaw08_TreeParts.f (k + 1) a0) := by
  intro a0 k
  obtain ⟨ih0, ih1, ih2⟩ := reredoslaw08_TreeParts.mono_l k
  unfold reredoslaw08_TreeParts.f
  repeat' first
      | (with_reducible exact ih0 _ _ _)
      | (with_reducible exact ih1 _ _ _ _ _)
      | (with_reducible exact ih2 _ _ _ _ _ _)
      | (with_reducible exact reredoslaw08_shown.mono _)
      | (with_reducible exact reredosref08_Few.mono _ _)
      | (with_reducible exact tree_Depth.mono _ _)
      | (with_reducible exact tree_End.mono _ _ _)
      | (with_reducible exact tree_Kids.mono _ _ _ _ _ _)
      | (with_reducible exact tree_May.mono _ _)
      | (with_reducible exact tree_Node.mono _ _ _ _ _ _ _)
      | (with_reducible exact tree_Same.mono _ _ _)
      | (with_reducible exact tree_Under.mono _ _ _)
      | (with_reducible exact LeO.refl _)
      | (with_reducible exact LeO.none _)
      | (with_reducible refine LeO.ite ?_ ?_)
      | (with_reducible refine LeO.bind ?_ (fun _ => ?_))
      | exact ih0 _ _ _
      | exact ih1 _ _ _ _ _
      | exact ih2 _ _ _ _ _ _
      | exact reredoslaw08_shown.mono _
      | exact reredosref08_Few.mono _ _
      | exact tree_Depth.mono _ _
      | exact tree_End.mono _ _ _
      | exact tree_Kids.mono _ _ _ _ _ _
      | exact tree_May.mono _ _
      | exact tree_Node.mono _ _ _ _ _ _ _
      | exact tree_Same.mono _ _ _
      | exact tree_Under.mono _ _ _
      | exact LeO.none _
      | refine LeO.ite ?_ ?_
      | refine LeO.bind ?_ (fun _ => ?_)
set_option maxHeartbeats 8000000 in
set_option maxRecDepth 100000 in
theorem reredoslaw08_TreeParts.calls (k : Nat) (P0_ : Nat → Prop) (A0 : Option Addr) (c0 : Nat) (l0 : List (S25)) (r : Bool) (w : World) (hs0 : Kd.V k25 25 w w.heap.size (fun k_ => P0_ k_) (.slice A0 l0.length c0) l0) (h : reredoslaw08_TreeParts.f k l0 = some r) :
    Calls Try.prog 6 #[.slice A0 l0.length c0] w fun e w' => e = .returned (.bool r) ∧ Below w.heap.size w w' := by
  have hu25 := Try.underlying25
  have HO0 := Aside0.mk (show Kd.V k25 25 w w.heap.size (fun k_ => (P0_ k_ ∨ w.heap.size ≤ k_)) (.slice A0 l0.length c0) l0 from Kd.V_mono hs0 (fun k_ hk => .inl hk))
  have HB := Aside0.mk (Below.refl w.heap.size w)
  have H : ((reredoslaw08_shown.f k).bind fun t436 => ((reredosref08_Few.f k l0).bind fun t437 => (if t437 = true then ((tree_May.f k l0).bind fun t438 => (if t438 = true then (reredoslaw08_TreeParts.j0 k l0 t436 ((l0.length : Int) == 0)) else (reredoslaw08_TreeParts.j0 k l0 t436 true))) else (reredoslaw08_TreeParts.j0 k l0 t436 true)))) = some r := h
  clear h
  replace H := Option.bind_eq_some_iff.mp H
  obtain ⟨t436, A20, H⟩ := H
  replace H : ((reredosref08_Few.f k l0).bind fun t437 => (if t437 = true then ((tree_May.f k l0).bind fun t438 => (if t438 = true then (reredoslaw08_TreeParts.j0 k l0 t436 ((l0.length : Int) == 0)) else (reredoslaw08_TreeParts.j0 k l0 t436 true))) else (reredoslaw08_TreeParts.j0 k l0 t436 true))) = some r := H
  have A2 := Aside0.mk A20
  clear A20
  have HC3 := Aside0.mk H
  clear H
  go_enter Try.func6, Try.ntmps6
  go_upto_region 2 with (first | ((with_reducible refine gate_callee (f := 17) rfl ?_); refine goesL_ (some 9) rfl rfl Try.func17 (by kernel_rfl) rfl #[] rfl (by (try simp only [List.map_toArray, List.map_cons, List.map_nil]); first | done | rfl | (simp only [List.length_drop, List.length_take]; rfl)) ?_; (with_reducible refine (reredoslaw08_shown.calls k  t436 _ A2.out).mono ?_); rintro e w4 ⟨rfl, hb⟩; refine ⟨_, rfl, ?_⟩; have n0_ := Aside0.mk (Kd.V_below (by (with_reducible repeat (first | apply Kd.V_alloc | apply Kd.V_drewN | apply Kd.V_drew)); exact HO0.out) hb); have n1_ := Aside0.mk (below_step (by repeat (first | (with_reducible first | exact HB.out | apply below_alloc | apply pw_below_drewN | apply below_drew1) | exact HB.out)) hb); clear HO0; clear HB; have HO0 := n0_; have HB := n1_; clear n0_ n1_; (try clear hb); (try clear hb2); (try clear hk); (try clear hi)))
  (try simp only [Act.put, List.setIfInBounds_toArray, List.set_cons_zero, List.set_cons_succ])
  go_cut [22] (fun v22 wc => ∃ (kq : Nat) (x22_2 : Bool), v22 = .bool x22_2 ∧ Aside0 (reredoslaw08_TreeParts.j0 kq l0 t436 x22_2 = some r) ∧ Aside0 (kq ≤ k) ∧ Aside0 (Kd.V k25 25 wc w.heap.size (fun k_ => (P0_ k_ ∨ w.heap.size ≤ k_)) (.slice A0 l0.length c0) l0) ∧ Aside0 (Below w.heap.size w wc))
  case first =>
    have H := HC3.out
    clear HC3
    replace H := Option.bind_eq_some_iff.mp H
    obtain ⟨t437, A50, H⟩ := H
    replace H : (if t437 = true then ((tree_May.f k l0).bind fun t438 => (if t438 = true then (reredoslaw08_TreeParts.j0 k l0 t436 ((l0.length : Int) == 0)) else (reredoslaw08_TreeParts.j0 k l0 t436 true))) else (reredoslaw08_TreeParts.j0 k l0 t436 true)) = some r := H
    have A5 := Aside0.mk A50
    clear A50
    by_cases c6 : t437 = true
    · subst c6
      have H1 : ((tree_May.f k l0).bind fun t438 => (if t438 = true then (reredoslaw08_TreeParts.j0 k l0 t436 ((l0.length : Int) == 0)) else (reredoslaw08_TreeParts.j0 k l0 t436 true))) = some r := by rw [if_pos rfl] at H; exact H
      clear H
      have H := H1
      clear H1
      replace H := Option.bind_eq_some_iff.mp H
      obtain ⟨t438, A70, H⟩ := H
      replace H : (if t438 = true then (reredoslaw08_TreeParts.j0 k l0 t436 ((l0.length : Int) == 0)) else (reredoslaw08_TreeParts.j0 k l0 t436 true)) = some r := H
      have A7 := Aside0.mk A70
      clear A70
      by_cases c8 : t438 = true
      · subst c8
        have H1 : (reredoslaw08_TreeParts.j0 k l0 t436 ((l0.length : Int) == 0)) = some r := by rw [if_pos rfl] at H; exact H
        clear H
        have H := H1
        clear H1
        have H' := Aside0.mk H
        clear H
        go_wp2_with (first | ((with_reducible refine gate_callee (f := 18) rfl ?_); refine goesL_ (some 11) rfl rfl Try.func18 (by kernel_rfl) rfl #[.slice A0 l0.length c0] rfl (by (try simp only [List.map_toArray, List.map_cons, List.map_nil]); first | done | rfl | (simp only [List.length_drop, List.length_take]; rfl)) ?_; (with_reducible refine (reredosref08_Few.calls k _ _ l0 true _ ?side1 ?side2 A5.out).mono ?_); (case side1 => repeat (first | exact (Kd.V_reads' HO0.out).2.2 | (with_reducible refine Kd.C_alloc ?_ _) | (with_reducible refine Kd.C_drewN ?_ _) | (with_reducible refine Kd.C_drew ?_))); (case side2 => exact (Kd.V_reads' HO0.out).2.1); rintro e w' ⟨rfl, ⟨nd, rfl⟩⟩; refine ⟨_, rfl, ?_⟩) | (go_at_call 28; (with_reducible refine (tree_May.calls k _ _ l0 true _ ?side1 ?side2 A7.out).mono ?_); (case side1 => repeat (first | exact (Kd.V_reads' HO0.out).2.2 | (with_reducible refine Kd.C_alloc ?_ _) | (with_reducible refine Kd.C_drewN ?_ _) | (with_reducible refine Kd.C_drew ?_))); (case side2 => exact (Kd.V_reads' HO0.out).2.1); rintro e w9 ⟨rfl, hb⟩; have n0_ := Aside0.mk (Kd.V_below (by (with_reducible repeat (first | apply Kd.V_alloc | apply Kd.V_drewN | apply Kd.V_drew)); exact HO0.out) hb); have n1_ := Aside0.mk (below_step (by repeat (first | (with_reducible first | exact HB.out | apply below_alloc | apply pw_below_drewN | apply below_drew1) | exact HB.out)) hb); clear HO0; clear HB; have HO0 := n0_; have HB := n1_; clear n0_ n1_; (try clear hb); (try clear hb2); (try clear hk); (try clear hi)))
        go_meet
        case rel => exact ⟨_, (((l0.length : Int) == 0)), (by first | rfl | (simp; done) | (simp [*]; done)), H', ⟨by first | omega | exact Nat.le_refl _⟩, ⟨by (with_reducible repeat (first | apply Kd.V_alloc | apply Kd.V_drewN | apply Kd.V_drew)); exact HO0.out⟩, ⟨by repeat (first | (with_reducible first | exact HB.out | apply below_alloc | apply pw_below_drewN | apply below_drew1) | exact HB.out)⟩⟩
      · replace c8 := Bool.eq_false_iff.mpr c8
        subst c8
        have H1 : (reredoslaw08_TreeParts.j0 k l0 t436 true) = some r := by rw [if_neg (show ¬ (false = true) by decide)] at H; exact H
        clear H
        have H := H1
        clear H1
        have H' := Aside0.mk H
        clear H
        go_wp2_with (first | ((with_reducible refine gate_callee (f := 18) rfl ?_); refine goesL_ (some 11) rfl rfl Try.func18 (by kernel_rfl) rfl #[.slice A0 l0.length c0] rfl (by (try simp only [List.map_toArray, List.map_cons, List.map_nil]); first | done | rfl | (simp only [List.length_drop, List.length_take]; rfl)) ?_; (with_reducible refine (reredosref08_Few.calls k _ _ l0 true _ ?side1 ?side2 A5.out).mono ?_); (case side1 => repeat (first | exact (Kd.V_reads' HO0.out).2.2 | (with_reducible refine Kd.C_alloc ?_ _) | (with_reducible refine Kd.C_drewN ?_ _) | (with_reducible refine Kd.C_drew ?_))); (case side2 => exact (Kd.V_reads' HO0.out).2.1); rintro e w' ⟨rfl, ⟨nd, rfl⟩⟩; refine ⟨_, rfl, ?_⟩) | (go_at_call 28; (with_reducible refine (tree_May.calls k _ _ l0 false _ ?side1 ?side2 A7.out).mono ?_); (case side1 => repeat (first | exact (Kd.V_reads' HO0.out).2.2 | (with_reducible refine Kd.C_alloc ?_ _) | (with_reducible refine Kd.C_drewN ?_ _) | (with_reducible refine Kd.C_drew ?_))); (case side2 => exact (Kd.V_reads' HO0.out).2.1); rintro e w10 ⟨rfl, hb⟩; have n0_ := Aside0.mk (Kd.V_below (by (with_reducible repeat (first | apply Kd.V_alloc | apply Kd.V_drewN | apply Kd.V_drew)); exact HO0.out) hb); have n1_ := Aside0.mk (below_step (by repeat (first | (with_reducible first | exact HB.out | apply below_alloc | apply pw_below_drewN | apply below_drew1) | exact HB.out)) hb); clear HO0; clear HB; have HO0 := n0_; have HB := n1_; clear n0_ n1_; (try clear hb); (try clear hb2); (try clear hk); (try clear hi)))
        go_meet
        case rel => exact ⟨_, (true), (by first | rfl | (simp; done) | (simp [*]; done)), H', ⟨by first | omega | exact Nat.le_refl _⟩, ⟨by (with_reducible repeat (first | apply Kd.V_alloc | apply Kd.V_drewN | apply Kd.V_drew)); exact HO0.out⟩, ⟨by repeat (first | (with_reducible first | exact HB.out | apply below_alloc | apply pw_below_drewN | apply below_drew1) | exact HB.out)⟩⟩
    · replace c6 := Bool.eq_false_iff.mpr c6
      subst c6
      have H1 : (reredoslaw08_TreeParts.j0 k l0 t436 true) = some r := by rw [if_neg (show ¬ (false = true) by decide)] at H; exact H
      clear H
      have H := H1
      clear H1
      have H' := Aside0.mk H
      clear H
      go_wp2_with (first | ((with_reducible refine gate_callee (f := 18) rfl ?_); refine goesL_ (some 11) rfl rfl Try.func18 (by kernel_rfl) rfl #[.slice A0 l0.length c0] rfl (by (try simp only [List.map_toArray, List.map_cons, List.map_nil]); first | done | rfl | (simp only [List.length_drop, List.length_take]; rfl)) ?_; (with_reducible refine (reredosref08_Few.calls k _ _ l0 false _ ?side1 ?side2 A5.out).mono ?_); (case side1 => repeat (first | exact (Kd.V_reads' HO0.out).2.2 | (with_reducible refine Kd.C_alloc ?_ _) | (with_reducible refine Kd.C_drewN ?_ _) | (with_reducible refine Kd.C_drew ?_))); (case side2 => exact (Kd.V_reads' HO0.out).2.1); rintro e w' ⟨rfl, ⟨nd, rfl⟩⟩; refine ⟨_, rfl, ?_⟩))
      go_meet
      case rel => exact ⟨_, (true), (by first | rfl | (simp; done) | (simp [*]; done)), H', ⟨by first | omega | exact Nat.le_refl _⟩, ⟨by (with_reducible repeat (first | apply Kd.V_alloc | apply Kd.V_drewN | apply Kd.V_drew)); exact HO0.out⟩, ⟨by repeat (first | (with_reducible first | exact HB.out | apply below_alloc | apply pw_below_drewN | apply below_drew1) | exact HB.out)⟩⟩
  case rest =>
    clear HC3
    try clear c1
    try clear p2
    try clear c6
    try clear c8
    obtain ⟨kq, x22_2, rfl, HA, HJ2, HO_0, HB⟩ := hcut
    cases kq with
    | zero => exact absurd HA.out (by simp [reredoslaw08_TreeParts.j0])
    | succ kj2 =>
      have H := HA.out
      clear HA
      simp only [reredoslaw08_TreeParts.j0] at H
      by_cases c11 : x22_2 = true
      · subst c11
        have H1 : (some t436) = some r := by rw [if_pos rfl] at H; exact H
        clear H
        have H := H1
        clear H1
        obtain rfl := Option.some.inj H
        go_wp2
        go_ret
        exact ⟨by first | rfl | (simp [errW_none, errW_some] <;> rfl) | (simp [*, errW_none, errW_some] <;> rfl), by repeat (first | (with_reducible first | exact HB.out | apply below_alloc | apply pw_below_drewN | apply below_drew1) | exact HB.out)⟩
      · replace c11 := Bool.eq_false_iff.mpr c11
        subst c11
        have H1 : ((tree_Under.f kj2 l0 0).bind fun t439 => (if 0 < (l0.length : Int) then ((tree_Node.f kj2 ((rd_T25 l0 0).f0) ((rd_T25 l0 0).f1) ((rd_T25 l0 0).f2) ((rd_T25 l0 0).f3) ((rd_T25 l0 0).f4) ([] : List (List (S25)))).bind fun t443 => (reredoslaw08_TreeParts.l0 kj2 l0 t436 t439 t443 0)) else (none))) = some r := by rw [if_neg (show ¬ (false = true) by decide)] at H; exact H
        clear H
        have H := H1
        clear H1
        replace H := Option.bind_eq_some_iff.mp H
        obtain ⟨t439, A120, H⟩ := H
        replace H : (if 0 < (l0.length : Int) then ((tree_Node.f kj2 ((rd_T25 l0 0).f0) ((rd_T25 l0 0).f1) ((rd_T25 l0 0).f2) ((rd_T25 l0 0).f3) ((rd_T25 l0 0).f4) ([] : List (List (S25)))).bind fun t443 => (reredoslaw08_TreeParts.l0 kj2 l0 t436 t439 t443 0)) else (none)) = some r := H
        have A12 := Aside0.mk A120
        clear A120
        by_cases c13 : 0 < (l0.length : Int)
        · rw [if_pos c13] at H
          have c13b0 : decide (0 < (l0.length : Int)) = true := decide_eq_true c13
          have c13b1 : decide (0 < l0.length) = true := decide_eq_true (by omega)
          clear c13
          replace H := Option.bind_eq_some_iff.mp H
          obtain ⟨t443, A140, H⟩ := H
          replace H : (reredoslaw08_TreeParts.l0 kj2 l0 t436 t439 t443 0) = some r := H
          have A14 := Aside0.mk A140
          clear A140
          have H' := Aside0.mk H
          clear H
          go_wp2_with (first | ((with_reducible refine gate_callee (f := 24) rfl ?_); refine goesL_ (some 25) rfl rfl Try.func24 (by kernel_rfl) rfl #[.slice A0 l0.length c0, .int .i64 0] rfl (by (try simp only [List.map_toArray, List.map_cons, List.map_nil]); first | done | rfl | (simp only [List.length_drop, List.length_take]; rfl)) ?_; (with_reducible refine (tree_Under.calls kj2 _ _ l0 0 t439 _ ?side1 ?side2 A12.out).mono ?_); (case side1 => repeat (first | exact (Kd.V_reads' HO_0.out).2.2 | (with_reducible refine Kd.C_alloc ?_ _) | (with_reducible refine Kd.C_drewN ?_ _) | (with_reducible refine Kd.C_drew ?_))); (case side2 => exact (Kd.V_reads' HO_0.out).2.1); rintro e w15 ⟨v440, rfl, ho0, hb⟩; refine ⟨_, rfl, ?_⟩; have n0_ := Aside0.mk (Kd.V_elder' (by (with_reducible repeat (first | apply Kd.V_alloc | apply Kd.V_drewN | apply Kd.V_drew)); exact HO_0.out) (Kd.R_base ho0) hb); have n1_ := Aside0.mk (Kd.R_lower (Kd.R_newM (M := fun k_ => (w.heap.size ≤ k_)) ho0 (below_size (by repeat (first | (with_reducible first | exact HB.out | apply below_alloc | apply pw_below_drewN | apply below_drew1) | exact HB.out))) (fun k_ h_ => h_)) (below_size (by repeat (first | (with_reducible first | exact HB.out | apply below_alloc | apply pw_below_drewN | apply below_drew1) | exact HB.out)))); have n2_ := Aside0.mk (below_step (by repeat (first | (with_reducible first | exact HB.out | apply below_alloc | apply pw_below_drewN | apply below_drew1) | exact HB.out)) hb); clear HO_0; clear HB; have HO_0 := n0_; have HO441 := n1_; have HB := n2_; clear n0_ n1_ n2_; (try clear hb); (try clear hb2); (try clear hk); (try clear hi); (try clear ho0); have p442 : 0 ≤ (0 : Int) := (by omega); have q442 : 0 < (l0.length : Int) := of_decide_eq_true (by first | (with_reducible assumption) | assumption); obtain ⟨ad442, A442_4, c442_4, e442, hx442_0, hx442_1, hx442_2, hx442_3, hx442_4, hl442_4, hi442_4⟩ := at_T25 (Kd.V_reads' HO_0.out).2.2 0 p442 q442; cases e442; obtain ⟨ce442, hce442, hMe442, hcc442⟩ := Kd.V_get HO_0.out z25 0 p442 (by first | exact q442 | exact of_decide_eq_true (by first | (with_reducible assumption) | assumption) | (have e_ := (Kd.V_reads' HO_0.out).1; omega)); obtain ⟨ua442_4, uc442_4, rfl, ul442_4, ge442_4⟩ := k25_openF hMe442; have hv442_4 := hcc442 4 _ rfl; rw [add_field _ _ 4 (by omega)] at hv442_4; replace hv442_4 := Option.some.inj (hv442_4.symm.trans hx442_4); injection hv442_4 with hva_ hvn_ hvc_; rw [hva_] at ge442_4; rw [hvc_] at ul442_4; have HL442_4 := Aside0.mk (show Kd.V Kd.string 9 _ w.heap.size _ _ ((rd_T25 l0 0).f4) from Kd.V_mk ul442_4 ge442_4); clear hva_ hvn_ hvc_ ge442_4 ul442_4; clear hcc442 hce442; have qi442 : (0 < l0.length) = True := eq_true (by omega); (try rw [show ((0 : Int)).toNat = 0 from rfl] at hx442_0); (try rw [show 0 * 5 = 0 from rfl] at hx442_0); (try rw [Addr.add_zero'] at hx442_0); (try rw [show ((0 : Int)).toNat = 0 from rfl] at hx442_1); (try rw [show 0 * 5 = 0 from rfl] at hx442_1); (try rw [Addr.add_zero'] at hx442_1); (try rw [show ((0 : Int)).toNat = 0 from rfl] at hx442_2); (try rw [show 0 * 5 = 0 from rfl] at hx442_2); (try rw [Addr.add_zero'] at hx442_2); (try rw [show ((0 : Int)).toNat = 0 from rfl] at hx442_3); (try rw [show 0 * 5 = 0 from rfl] at hx442_3); (try rw [Addr.add_zero'] at hx442_3); (try rw [show ((0 : Int)).toNat = 0 from rfl] at hx442_4); (try rw [show 0 * 5 = 0 from rfl] at hx442_4); (try rw [Addr.add_zero'] at hx442_4); have HR442_4 := Aside0.mk hi442_4; have HC442_4 := Aside0.mk hl442_4; clear hi442_4 hl442_4; replace p442 := eq_true p442; replace q442 := eq_true q442) | ((with_reducible refine gate_callee (f := 32) rfl ?_); refine goesL_ (some 29) rfl rfl Try.func32 (by kernel_rfl) rfl #[.agg #[.int .i64 ((rd_T25 l0 0).f0), .string ((rd_T25 l0 0).f1), .string ((rd_T25 l0 0).f2), .string ((rd_T25 l0 0).f3), .slice A442_4 ((rd_T25 l0 0).f4).length c442_4], .slice none 0 0] rfl (by (try simp only [List.map_toArray, List.map_cons, List.map_nil]); first | done | rfl | (simp only [List.length_drop, List.length_take]; rfl)) ?_; (refine (tree_Node.calls kj2 ((rd_T25 l0 0).f0) ((rd_T25 l0 0).f1) ((rd_T25 l0 0).f2) ((rd_T25 l0 0).f3) (fun k_ => ((P0_ k_ ∨ w.heap.size ≤ k_) ∧ some k_ ≠ (v440 : Value).ownBlock)) _ _ ((rd_T25 l0 0).f4) (fun k_ => False) _ _ ([] : List (List (S25))) t443 _ ?side1 ?side2 A14.out).mono ?_); (case side1 => exact HL442_4.out); (case side2 => exact Kd.V_nil _ _ _ _ _); rintro e w16 ⟨v444, rfl, ho0, hb⟩; refine ⟨_, rfl, ?_⟩; have n0_ := Aside0.mk (Kd.V_elder' (by (with_reducible repeat (first | apply Kd.V_alloc | apply Kd.V_drewN | apply Kd.V_drew)); exact HO_0.out) (Kd.N_base ho0) hb); have n1_ := Aside0.mk (Kd.R_below (by (with_reducible repeat (first | apply Kd.R_alloc | apply Kd.R_drewN | apply Kd.R_drew)); exact HO441.out) hb); have n2_ := Aside0.mk (Kd.V_elder' (by (with_reducible repeat (first | apply Kd.V_alloc | apply Kd.V_drewN | apply Kd.V_drew)); exact HL442_4.out) (Kd.N_base ho0) hb); have n3_ := Aside0.mk (Kd.N_lower (Kd.N_mono (ok' := fun k_ => (P0_ k_ ∨ w.heap.size ≤ k_) ∧ some k_ ≠ (v440 : Value).ownBlock) ho0 (fun k_ hk_ => ⟨Or.elim hk_ (fun hs_ => Or.elim hs_ (fun hs_ => hs_.1) (fun hs_ => (hs_).elim)) (fun hn_ => (.inr (Nat.le_trans (below_size (by repeat (first | (with_reducible first | exact HB.out | apply below_alloc | apply pw_below_drewN | apply below_drew1) | exact HB.out))) hn_))), Or.elim hk_ (fun hs_ => Or.elim hs_ (fun hs_ => hs_.2) (fun hs_ => (hs_).elim)) (fun hn_ => (Kd.fresh' (Kd.R_lt (by (with_reducible repeat (first | apply Kd.R_alloc | apply Kd.R_drewN | apply Kd.R_drew)); exact HO441.out)) k_ hn_))⟩)) (below_size (by repeat (first | (with_reducible first | exact HB.out | apply below_alloc | apply pw_below_drewN | apply below_drew1) | exact HB.out)))); have n4_ := Aside0.mk (Kd.C_below (by repeat (first | (with_reducible exact HR442_4.out) | (with_reducible refine Kd.C_alloc ?_ _) | (with_reducible refine Kd.C_drewN ?_ _) | (with_reducible refine Kd.C_drew ?_) | exact HR442_4.out)) hb); have n5_ := Aside0.mk (below_step (by repeat (first | (with_reducible first | exact HB.out | apply below_alloc | apply pw_below_drewN | apply below_drew1) | exact HB.out)) hb); clear HO_0; clear HO441; clear HL442_4; clear HR442_4; clear HB; have HO_0 := n0_; have HO441 := n1_; have HL442_4 := n2_; have HO445 := n3_; have HR442_4 := n4_; have HB := n5_; clear n0_ n1_ n2_ n3_ n4_ n5_; (try clear hb); (try clear hb2); (try clear hk); (try clear hi); (try clear ho0)))
          go_loopg [5, 6] kj2 (fun kq v5 v6 w' => ∃ (x5_2 : List (S25)) (x6_2 : Int), v6 = .int .i64 x6_2 ∧ Aside0 (reredoslaw08_TreeParts.l0 kq l0 t436 t439 x5_2 x6_2 = some r) ∧ Aside0 (kq ≤ kj2) ∧ Aside0 (Kd.V k25 25 w' w.heap.size (fun k_ => (P0_ k_ ∨ w.heap.size ≤ k_) ∧ some k_ ≠ (v440 : Value).ownBlock ∧ some k_ ≠ (v5 : Value).ownBlock) (.slice (some ad442) l0.length c0) l0) ∧ Aside0 (Kd.R (Kd.int .i64) 3 w' w.heap.size (fun k_ => (w.heap.size ≤ k_)) v440 t439) ∧ Aside0 (Kd.N k25 25 w' w.heap.size (fun k_ => (P0_ k_ ∨ w.heap.size ≤ k_) ∧ some k_ ≠ (v440 : Value).ownBlock) v5 x5_2) ∧ Aside0 (Below w.heap.size w w'))
          case atStart => exact ⟨(t443), (0), (by first | rfl | (simp; done) | (simp [*]; done)), H', ⟨Nat.le_refl _⟩, ⟨by (with_reducible repeat (first | apply Kd.V_alloc | apply Kd.V_drewN | apply Kd.V_drew)); exact Kd.V_mono HO_0.out (fun _ hk => ⟨hk.1.1, ⟨hk.1.2, hk.2⟩⟩)⟩, ⟨by (with_reducible repeat (first | apply Kd.R_alloc | apply Kd.R_drewN | apply Kd.R_drew)); exact Kd.R_mono HO441.out (fun _ hk => hk.1)⟩, ⟨by (with_reducible repeat (first | apply Kd.N_alloc | apply Kd.N_drewN | apply Kd.N_drew)); exact HO445.out⟩, ⟨by repeat (first | (with_reducible first | exact HB.out | apply below_alloc | apply pw_below_drewN | apply below_drew1) | exact HB.out)⟩⟩
          case round =>
            clear H'
            try clear c1
            try clear c2
            try clear p2
            try clear c3
            try clear c4
            try clear p4
            try clear q4
            try clear hx4
            try clear qi4
            try clear c6
            try clear c8
            try clear c11
            try clear c13
            try clear c13b0
            try clear c13b1
            try clear hx442_0
            try clear hx442_1
            try clear hx442_2
            try clear hx442_3
            try clear hx442_4
            try clear p2
            try clear p442
            try clear q442
            obtain ⟨x5_2, x6_2, rfl, HA, HK2, HO_0, HO_4, HO_5, HB⟩ := hrel
            cases gk with
            | zero => exact absurd HA.out (by simp [reredoslaw08_TreeParts.l0])
            | succ k2 =>
              have H := HA.out
              clear HA
              simp only [reredoslaw08_TreeParts.l0] at H
              by_cases c17 : x6_2 < (t439.length : Int)
              · rw [if_pos c17] at H
                have c17b0 : decide (x6_2 < (t439.length : Int)) = true := decide_eq_true c17
                clear c17
                have HC18 := Aside0.mk H
                clear H
                obtain ⟨Ao19, co19, eo19⟩ := Kd.R_slice HO_4.out
                subst eo19
                go_upto_region 9 with (fail)
                go_cut [49] (fun v49 wc => ∃ (kq : Nat) (x49_17 : Bool), v49 = .bool x49_17 ∧ Aside0 (reredoslaw08_TreeParts.j2 kq l0 t436 t439 x5_2 x6_2 x49_17 = some r) ∧ Aside0 (kq ≤ k2) ∧ Aside0 (Kd.V k25 25 wc w.heap.size (fun k_ => (P0_ k_ ∨ w.heap.size ≤ k_) ∧ some k_ ≠ ((.slice Ao19 t439.length co19) : Value).ownBlock ∧ some k_ ≠ (u5 : Value).ownBlock) (.slice (some ad442) l0.length c0) l0) ∧ Aside0 (Kd.R (Kd.int .i64) 3 wc w.heap.size (fun k_ => (w.heap.size ≤ k_)) (.slice Ao19 t439.length co19) t439) ∧ Aside0 (Kd.N k25 25 wc w.heap.size (fun k_ => (P0_ k_ ∨ w.heap.size ≤ k_) ∧ some k_ ≠ ((.slice Ao19 t439.length co19) : Value).ownBlock) u5 x5_2) ∧ Aside0 (Below w.heap.size w wc))
                case first =>
                  have H := HC18.out
                  clear HC18
                  by_cases c20 : 0 ≤ x6_2
                  · rw [if_pos c20] at H
                    have c20b0 : decide (0 ≤ x6_2) = true := decide_eq_true c20
                    clear c20
                    (first | rw [c20b0] | (simp only [i64_w, i32_w]; rw [c20b0]) | skip)
                    by_cases c21 : (rd t439 x6_2) < 1
                    · rw [if_pos c21] at H
                      have c21b0 : decide ((rd t439 x6_2) < 1) = true := decide_eq_true c21
                      clear c21
                      have H' := Aside0.mk H
                      clear H
                      have p449 : 0 ≤ (x6_2 : Int) := of_decide_eq_true (by first | (with_reducible assumption) | assumption)
                      have q449 : x6_2 < (t439.length : Int) := of_decide_eq_true (by first | (with_reducible assumption) | assumption)
                      obtain ⟨ad449, e449, hx449_0⟩ := Kd.at_int (Kd.R_reads' HO_4.out).2.2 x6_2 p449 q449
                      cases e449
                      replace p449 := eq_true p449
                      replace q449 := eq_true q449
                      go_wp2
                      go_meet
                      case rel => exact ⟨_, (true), (by first | rfl | (simp; done) | (simp [*]; done)), H', ⟨by have := HJ2.out; have := HK2.out; first | omega | exact Nat.le_refl _⟩, ⟨by (with_reducible repeat (first | apply Kd.V_alloc | apply Kd.V_drewN | apply Kd.V_drew)); exact HO_0.out⟩, ⟨by (with_reducible repeat (first | apply Kd.R_alloc | apply Kd.R_drewN | apply Kd.R_drew)); exact HO_4.out⟩, ⟨by (with_reducible repeat (first | apply Kd.N_alloc | apply Kd.N_drewN | apply Kd.N_drew)); exact HO_5.out⟩, ⟨by repeat (first | (with_reducible first | exact HB.out | apply below_alloc | apply pw_below_drewN | apply below_drew1) | exact HB.out)⟩⟩
                    · rw [if_neg c21] at H
                      have c21b0 : decide ((rd t439 x6_2) < 1) = false := decide_eq_false c21
                      clear c21
                      have H' := Aside0.mk H
                      clear H
                      have p449 : 0 ≤ (x6_2 : Int) := of_decide_eq_true (by first | (with_reducible assumption) | assumption)
                      have q449 : x6_2 < (t439.length : Int) := of_decide_eq_true (by first | (with_reducible assumption) | assumption)
                      obtain ⟨ad449, e449, hx449_0⟩ := Kd.at_int (Kd.R_reads' HO_4.out).2.2 x6_2 p449 q449
                      cases e449
                      replace p449 := eq_true p449
                      replace q449 := eq_true q449
                      have p450 : 0 ≤ (x6_2 : Int) := of_decide_eq_true (by first | (with_reducible assumption) | assumption)
                      have q450 : x6_2 < (t439.length : Int) := of_decide_eq_true (by first | (with_reducible assumption) | assumption)
                      obtain ⟨ad450, e450, hx450_0⟩ := Kd.at_int (Kd.R_reads' HO_4.out).2.2 x6_2 p450 q450
                      obtain rfl : ad449 = ad450 := (by injection e450)
                      replace p450 := eq_true p450
                      replace q450 := eq_true q450
                      go_wp2
                      go_meet
                      case rel => exact ⟨_, (decide ((rd t439 x6_2) ≥ (l0.length : Int))), (by first | rfl | (simp; done) | (simp [*]; done)), H', ⟨by have := HJ2.out; have := HK2.out; first | omega | exact Nat.le_refl _⟩, ⟨by (with_reducible repeat (first | apply Kd.V_alloc | apply Kd.V_drewN | apply Kd.V_drew)); exact HO_0.out⟩, ⟨by (with_reducible repeat (first | apply Kd.R_alloc | apply Kd.R_drewN | apply Kd.R_drew)); exact HO_4.out⟩, ⟨by (with_reducible repeat (first | apply Kd.N_alloc | apply Kd.N_drewN | apply Kd.N_drew)); exact HO_5.out⟩, ⟨by repeat (first | (with_reducible first | exact HB.out | apply below_alloc | apply pw_below_drewN | apply below_drew1) | exact HB.out)⟩⟩
                  · rw [if_neg c20] at H
                    exact absurd H (by simp)
                case rest =>
                  clear HC18
                  try clear c1
                  try clear c2
                  try clear p2
                  try clear c3
                  try clear c4
                  try clear p4
                  try clear q4
                  try clear hx4
                  try clear qi4
                  try clear c6
                  try clear c8
                  try clear c11
                  try clear c13
                  try clear c13b0
                  try clear c13b1
                  try clear c17
                  try clear c17b0
                  try clear c18
                  try clear c20
                  try clear c20b0
                  try clear c21
                  try clear c21b0
                  try clear hx442_0
                  try clear hx442_1
                  try clear hx442_2
                  try clear hx442_3
                  try clear hx442_4
                  try clear hx449_0
                  try clear hx450_0
                  try clear p2
                  try clear p4
                  try clear p442
                  try clear p449
                  try clear p450
                  try clear q4
                  try clear q442
                  try clear q449
                  try clear q450
                  obtain ⟨kq, x49_17, rfl, HA, HJ17, HO_0, HO_4, HO_5, HB⟩ := hcut
                  cases kq with
                  | zero => exact absurd HA.out (by simp [reredoslaw08_TreeParts.j2])
                  | succ kj17 =>
                    have H := HA.out
                    clear HA
                    simp only [reredoslaw08_TreeParts.j2] at H
                    by_cases c22 : x49_17 = true
                    · subst c22
                      have H1 : (none) = some r := by rw [if_pos rfl] at H; exact H
                      clear H
                      have H := H1
                      clear H1
                      exact absurd H (by simp)
                    · replace c22 := Bool.eq_false_iff.mpr c22
                      subst c22
                      have H1 : (if 0 ≤ x6_2 then (if x6_2 < (t439.length : Int) then ((tree_End.f kj17 l0 (rd t439 x6_2)).bind fun bt452 => (if bt452.2 = true then (if bt452.1 ≤ (rd t439 x6_2) then (none) else (if bt452.1 > (l0.length : Int) then (none) else (if 0 ≤ (rd t439 x6_2) then (if (rd t439 x6_2) ≤ bt452.1 then (if bt452.1 ≤ (l0.length : Int) then ((tree_May.f kj17 ((l0.take (bt452.1 : Int).toNat).drop ((rd t439 x6_2) : Int).toNat)).bind fun t461 => (if t461 = true then ((tree_Depth.f kj17 ((l0.take (bt452.1 : Int).toNat).drop ((rd t439 x6_2) : Int).toNat)).bind fun t468 => ((tree_Depth.f kj17 l0).bind fun t469 => (if t468 ≥ t469 then (none) else ((some ((l0.take (bt452.1 : Int).toNat).drop ((rd t439 x6_2) : Int).toNat : List (S25))).bind fun y471 => (if x5_2.length + y471.length < 1759218604441 then (reredoslaw08_TreeParts.l0 kj17 l0 t436 t439 (x5_2 ++ y471) (wrap64 (x6_2 + 1))) else (none)))))) else (none))) else (none)) else (none)) else (none)))) else (none))) else (none)) else (none)) = some r := by rw [if_neg (show ¬ (false = true) by decide)] at H; exact H
                      clear H
                      have H := H1
                      clear H1
                      by_cases c23 : 0 ≤ x6_2
                      · rw [if_pos c23] at H
                        have c23b0 : decide (0 ≤ x6_2) = true := decide_eq_true c23
                        clear c23
                        by_cases c24 : x6_2 < (t439.length : Int)
                        · rw [if_pos c24] at H
                          have c24b0 : decide (x6_2 < (t439.length : Int)) = true := decide_eq_true c24
                          clear c24
                          replace H := Option.bind_eq_some_iff.mp H
                          obtain ⟨⟨t452, t453⟩, A250, H⟩ := H
                          replace H : (if t453 = true then (if t452 ≤ (rd t439 x6_2) then (none) else (if t452 > (l0.length : Int) then (none) else (if 0 ≤ (rd t439 x6_2) then (if (rd t439 x6_2) ≤ t452 then (if t452 ≤ (l0.length : Int) then ((tree_May.f kj17 ((l0.take (t452 : Int).toNat).drop ((rd t439 x6_2) : Int).toNat)).bind fun t461 => (if t461 = true then ((tree_Depth.f kj17 ((l0.take (t452 : Int).toNat).drop ((rd t439 x6_2) : Int).toNat)).bind fun t468 => ((tree_Depth.f kj17 l0).bind fun t469 => (if t468 ≥ t469 then (none) else ((some ((l0.take (t452 : Int).toNat).drop ((rd t439 x6_2) : Int).toNat : List (S25))).bind fun y471 => (if x5_2.length + y471.length < 1759218604441 then (reredoslaw08_TreeParts.l0 kj17 l0 t436 t439 (x5_2 ++ y471) (wrap64 (x6_2 + 1))) else (none)))))) else (none))) else (none)) else (none)) else (none)))) else (none)) = some r := H
                          have A25 := Aside0.mk A250
                          clear A250
                          by_cases c26 : t453 = true
                          · subst c26
                            have H1 : (if t452 ≤ (rd t439 x6_2) then (none) else (if t452 > (l0.length : Int) then (none) else (if 0 ≤ (rd t439 x6_2) then (if (rd t439 x6_2) ≤ t452 then (if t452 ≤ (l0.length : Int) then ((tree_May.f kj17 ((l0.take (t452 : Int).toNat).drop ((rd t439 x6_2) : Int).toNat)).bind fun t461 => (if t461 = true then ((tree_Depth.f kj17 ((l0.take (t452 : Int).toNat).drop ((rd t439 x6_2) : Int).toNat)).bind fun t468 => ((tree_Depth.f kj17 l0).bind fun t469 => (if t468 ≥ t469 then (none) else ((some ((l0.take (t452 : Int).toNat).drop ((rd t439 x6_2) : Int).toNat : List (S25))).bind fun y471 => (if x5_2.length + y471.length < 1759218604441 then (reredoslaw08_TreeParts.l0 kj17 l0 t436 t439 (x5_2 ++ y471) (wrap64 (x6_2 + 1))) else (none)))))) else (none))) else (none)) else (none)) else (none)))) = some r := by rw [if_pos rfl] at H; exact H
                            clear H
                            have H := H1
                            clear H1
                            by_cases c27 : t452 ≤ (rd t439 x6_2)
                            · rw [if_pos c27] at H
                              exact absurd H (by simp)
                            · rw [if_neg c27] at H
                              have c27b0 : decide (t452 ≤ (rd t439 x6_2)) = false := decide_eq_false c27
                              clear c27
                              by_cases c28 : t452 > (l0.length : Int)
                              · rw [if_pos c28] at H
                                exact absurd H (by simp)
                              · rw [if_neg c28] at H
                                have c28b0 : decide ((l0.length : Int) < t452) = false := decide_eq_false c28
                                clear c28
                                by_cases c29 : 0 ≤ (rd t439 x6_2)
                                · rw [if_pos c29] at H
                                  have c29b0 := eq_true c29
                                  have c29b1 : decide (0 ≤ (rd t439 x6_2)) = true := decide_eq_true c29
                                  clear c29
                                  by_cases c30 : (rd t439 x6_2) ≤ t452
                                  · rw [if_pos c30] at H
                                    have c30b0 := eq_true c30
                                    have c30b1 : decide ((rd t439 x6_2) ≤ t452) = true := decide_eq_true c30
                                    clear c30
                                    by_cases c31 : t452 ≤ (l0.length : Int)
                                    · rw [if_pos c31] at H
                                      have c31b0 := eq_true c31
                                      have c31b1 : decide (t452 ≤ (l0.length : Int)) = true := decide_eq_true c31
                                      clear c31
                                      obtain ⟨y456, hy456⟩ : ∃ y_ : List (S25), y_ = ((l0.take (t452 : Int).toNat).drop ((rd t439 x6_2) : Int).toNat) := ⟨_, rfl⟩
                                      replace H : ((tree_May.f kj17 y456).bind fun t461 => (if t461 = true then ((tree_Depth.f kj17 ((l0.take (t452 : Int).toNat).drop ((rd t439 x6_2) : Int).toNat)).bind fun t468 => ((tree_Depth.f kj17 l0).bind fun t469 => (if t468 ≥ t469 then (none) else ((some ((l0.take (t452 : Int).toNat).drop ((rd t439 x6_2) : Int).toNat : List (S25))).bind fun y471 => (if x5_2.length + y471.length < 1759218604441 then (reredoslaw08_TreeParts.l0 kj17 l0 t436 t439 (x5_2 ++ y471) (wrap64 (x6_2 + 1))) else (none)))))) else (none))) = some r := by first | (rw [hy456]; with_reducible exact H) | (have H2_ := (Option.bind_some _ _).symm.trans H; rw [hy456]; with_reducible exact H2_) | (have H2_ := (Option.bind_some _ _).symm.trans H; with_reducible exact H2_) | with_reducible exact H | (rw [hy456]; exact H) | exact H
                                      have Ny456 := Aside0.mk hy456
                                      clear hy456
                                      replace H := Option.bind_eq_some_iff.mp H
                                      obtain ⟨t461, A320, H⟩ := H
                                      replace H : (if t461 = true then ((tree_Depth.f kj17 ((l0.take (t452 : Int).toNat).drop ((rd t439 x6_2) : Int).toNat)).bind fun t468 => ((tree_Depth.f kj17 l0).bind fun t469 => (if t468 ≥ t469 then (none) else ((some ((l0.take (t452 : Int).toNat).drop ((rd t439 x6_2) : Int).toNat : List (S25))).bind fun y471 => (if x5_2.length + y471.length < 1759218604441 then (reredoslaw08_TreeParts.l0 kj17 l0 t436 t439 (x5_2 ++ y471) (wrap64 (x6_2 + 1))) else (none)))))) else (none)) = some r := H
                                      have A32 := Aside0.mk A320
                                      clear A320
                                      by_cases c33 : t461 = true
                                      · subst c33
                                        have H1 : ((tree_Depth.f kj17 ((l0.take (t452 : Int).toNat).drop ((rd t439 x6_2) : Int).toNat)).bind fun t468 => ((tree_Depth.f kj17 l0).bind fun t469 => (if t468 ≥ t469 then (none) else ((some ((l0.take (t452 : Int).toNat).drop ((rd t439 x6_2) : Int).toNat : List (S25))).bind fun y471 => (if x5_2.length + y471.length < 1759218604441 then (reredoslaw08_TreeParts.l0 kj17 l0 t436 t439 (x5_2 ++ y471) (wrap64 (x6_2 + 1))) else (none)))))) = some r := by rw [if_pos rfl] at H; exact H
                                        clear H
                                        have H := H1
                                        clear H1
                                        have c34b0 := eq_true (of_decide_eq_true (by first | (with_reducible assumption) | assumption) : 0 ≤ (rd t439 x6_2))
                                        have c35b0 := eq_true (of_decide_eq_true (by first | (with_reducible assumption) | assumption) : (rd t439 x6_2) ≤ t452)
                                        have c36b0 := eq_true (of_decide_eq_true (by first | (with_reducible assumption) | assumption) : t452 ≤ (l0.length : Int))
                                        obtain ⟨y463, hy463⟩ : ∃ y_ : List (S25), y_ = ((l0.take (t452 : Int).toNat).drop ((rd t439 x6_2) : Int).toNat) := ⟨_, rfl⟩
                                        replace H : ((tree_Depth.f kj17 y463).bind fun t468 => ((tree_Depth.f kj17 l0).bind fun t469 => (if t468 ≥ t469 then (none) else ((some ((l0.take (t452 : Int).toNat).drop ((rd t439 x6_2) : Int).toNat : List (S25))).bind fun y471 => (if x5_2.length + y471.length < 1759218604441 then (reredoslaw08_TreeParts.l0 kj17 l0 t436 t439 (x5_2 ++ y471) (wrap64 (x6_2 + 1))) else (none)))))) = some r := by first | (rw [hy463]; with_reducible exact H) | (have H2_ := (Option.bind_some _ _).symm.trans H; rw [hy463]; with_reducible exact H2_) | (have H2_ := (Option.bind_some _ _).symm.trans H; with_reducible exact H2_) | with_reducible exact H | (rw [hy463]; exact H) | exact H
                                        have Ny463 := Aside0.mk hy463
                                        clear hy463
                                        replace H := Option.bind_eq_some_iff.mp H
                                        obtain ⟨t468, A370, H⟩ := H
                                        replace H : ((tree_Depth.f kj17 l0).bind fun t469 => (if t468 ≥ t469 then (none) else ((some ((l0.take (t452 : Int).toNat).drop ((rd t439 x6_2) : Int).toNat : List (S25))).bind fun y471 => (if x5_2.length + y471.length < 1759218604441 then (reredoslaw08_TreeParts.l0 kj17 l0 t436 t439 (x5_2 ++ y471) (wrap64 (x6_2 + 1))) else (none))))) = some r := H
                                        have A37 := Aside0.mk A370
                                        clear A370
                                        replace H := Option.bind_eq_some_iff.mp H
                                        obtain ⟨t469, A380, H⟩ := H
                                        replace H : (if t468 ≥ t469 then (none) else ((some ((l0.take (t452 : Int).toNat).drop ((rd t439 x6_2) : Int).toNat : List (S25))).bind fun y471 => (if x5_2.length + y471.length < 1759218604441 then (reredoslaw08_TreeParts.l0 kj17 l0 t436 t439 (x5_2 ++ y471) (wrap64 (x6_2 + 1))) else (none)))) = some r := H
                                        have A38 := Aside0.mk A380
                                        clear A380
                                        by_cases c39 : t468 ≥ t469
                                        · rw [if_pos c39] at H
                                          exact absurd H (by simp)
                                        · rw [if_neg c39] at H
                                          have c39b0 : decide (t469 ≤ t468) = false := decide_eq_false c39
                                          clear c39
                                          have c40b0 := eq_true (of_decide_eq_true (by first | (with_reducible assumption) | assumption) : 0 ≤ (rd t439 x6_2))
                                          have c41b0 := eq_true (of_decide_eq_true (by first | (with_reducible assumption) | assumption) : (rd t439 x6_2) ≤ t452)
                                          have c42b0 := eq_true (of_decide_eq_true (by first | (with_reducible assumption) | assumption) : t452 ≤ (l0.length : Int))
                                          obtain ⟨y471, hy471⟩ : ∃ y_ : List (S25), y_ = ((l0.take (t452 : Int).toNat).drop ((rd t439 x6_2) : Int).toNat) := ⟨_, rfl⟩
                                          replace H : (if x5_2.length + y471.length < 1759218604441 then (reredoslaw08_TreeParts.l0 kj17 l0 t436 t439 (x5_2 ++ y471) (wrap64 (x6_2 + 1))) else (none)) = some r := by first | (rw [hy471]; with_reducible exact H) | (have H2_ := (Option.bind_some _ _).symm.trans H; rw [hy471]; with_reducible exact H2_) | (have H2_ := (Option.bind_some _ _).symm.trans H; with_reducible exact H2_) | with_reducible exact H | (rw [hy471]; exact H) | exact H
                                          have Ny471 := Aside0.mk hy471
                                          clear hy471
                                          by_cases c43 : x5_2.length + y471.length < 1759218604441
                                          · rw [if_pos c43] at H
                                            have LMc43 := Aside0.mk c43
                                            clear c43
                                            obtain ⟨y476, hy476⟩ : ∃ y_ : List (S25), y_ = (x5_2 ++ y471) := ⟨_, rfl⟩
                                            replace H : (reredoslaw08_TreeParts.l0 kj17 l0 t436 t439 y476 (wrap64 (x6_2 + 1))) = some r := by first | (rw [hy476]; with_reducible exact H) | (have H2_ := (Option.bind_some _ _).symm.trans H; rw [hy476]; with_reducible exact H2_) | (have H2_ := (Option.bind_some _ _).symm.trans H; with_reducible exact H2_) | with_reducible exact H | (rw [hy476]; exact H) | exact H
                                            have Ny476 := Aside0.mk hy476
                                            clear hy476
                                            have H' := Aside0.mk H
                                            clear H
                                            have p451 : 0 ≤ (x6_2 : Int) := of_decide_eq_true (by first | (with_reducible assumption) | assumption)
                                            have q451 : x6_2 < (t439.length : Int) := of_decide_eq_true (by first | (with_reducible assumption) | assumption)
                                            obtain ⟨ad451, e451, hx451_0⟩ := Kd.at_int (Kd.R_reads' HO_4.out).2.2 x6_2 p451 q451
                                            cases e451
                                            replace p451 := eq_true p451
                                            replace q451 := eq_true q451
                                            go_wp2_with (first | ((with_reducible refine gate_callee (f := 19) rfl ?_); refine goesL_ (some 56) rfl rfl Try.func19 (by kernel_rfl) rfl #[.slice (some ad442) l0.length c0, .int .i64 (rd t439 x6_2)] rfl (by (try simp only [List.map_toArray, List.map_cons, List.map_nil]); first | done | rfl | (simp only [List.length_drop, List.length_take]; rfl)) ?_; (with_reducible refine (tree_End.calls kj17 _ _ l0 (rd t439 x6_2) t452 true _ ?side1 ?side2 A25.out).mono ?_); (case side1 => repeat (first | exact (Kd.V_reads' HO_0.out).2.2 | (with_reducible refine Kd.C_alloc ?_ _) | (with_reducible refine Kd.C_drewN ?_ _) | (with_reducible refine Kd.C_drew ?_))); (case side2 => exact (Kd.V_reads' HO_0.out).2.1); rintro e w44 ⟨rfl, hb⟩; refine ⟨_, rfl, ?_⟩; have n0_ := Aside0.mk (Kd.V_below (by (with_reducible repeat (first | apply Kd.V_alloc | apply Kd.V_drewN | apply Kd.V_drew)); exact HO_0.out) hb); have n1_ := Aside0.mk (Kd.R_below (by (with_reducible repeat (first | apply Kd.R_alloc | apply Kd.R_drewN | apply Kd.R_drew)); exact HO_4.out) hb); have n2_ := Aside0.mk (Kd.N_below (by (with_reducible repeat (first | apply Kd.N_alloc | apply Kd.N_drewN | apply Kd.N_drew)); exact HO_5.out) hb); have n3_ := Aside0.mk (below_step (by repeat (first | (with_reducible first | exact HB.out | apply below_alloc | apply pw_below_drewN | apply below_drew1) | exact HB.out)) hb); clear HO_0; clear HO_4; clear HO_5; clear HB; have HO_0 := n0_; have HO_4 := n1_; have HO_5 := n2_; have HB := n3_; clear n0_ n1_ n2_ n3_; (try clear hb); (try clear hb2); (try clear hk); (try clear hi); have p454 : 0 ≤ (x6_2 : Int) := of_decide_eq_true (by first | (with_reducible assumption) | assumption); have q454 : x6_2 < (t439.length : Int) := of_decide_eq_true (by first | (with_reducible assumption) | assumption); obtain ⟨ad454, e454, hx454_0⟩ := Kd.at_int (Kd.R_reads' HO_4.out).2.2 x6_2 p454 q454; obtain rfl : ad451 = ad454 := (by injection e454); replace p454 := eq_true p454; replace q454 := eq_true q454; have p455 : 0 ≤ (x6_2 : Int) := of_decide_eq_true (by first | (with_reducible assumption) | assumption); have q455 : x6_2 < (t439.length : Int) := of_decide_eq_true (by first | (with_reducible assumption) | assumption); obtain ⟨ad455, e455, hx455_0⟩ := Kd.at_int (Kd.R_reads' HO_4.out).2.2 x6_2 p455 q455; obtain rfl : ad451 = ad455 := (by injection e455); replace p455 := eq_true p455; replace q455 := eq_true q455; have q45 : (t452 : Int) ≤ ((l0.length : Int) : Int) := of_decide_eq_true (by first | (with_reducible assumption) | assumption); obtain ⟨i045, hi045, _, hsz45, _⟩ := info_parts info25; have hroom45 : l0.length ≤ c0 := (Kd.V_reads' HO_0.out).2.1; have hC45 : Kd.F k25 _ _ (some ad442) l0.length l0 := (Kd.V_at (base := w.heap.size) HO_0.out).2.2; have ql45 : ((rd t439 x6_2) : Int) ≤ (t452 : Int) := of_decide_eq_true (by first | (with_reducible assumption) | assumption); have q045 : (0 : Int) ≤ ((rd t439 x6_2) : Int) := of_decide_eq_true (by first | (with_reducible assumption) | assumption); have hcut45 := cut_mid (P := Try.prog) 22 25 .i64 .i64 Try.underlying22 hi045 5 hsz45 (some ad442) l0.length c0 (rd t439 x6_2) t452 q045 ql45 q45 hroom45; have hr45 := Kd.F_mid (lo := ((rd t439 x6_2) : Int).toNat) (hi := (t452 : Int).toNat) (c := c0) hC45 (by omega) (by omega) hroom45; obtain ⟨A45, hA45⟩ : ∃ A1, A1 = (if c0 = ((rd t439 x6_2) : Int).toNat then (some ad442) else ((some ad442) : Option Addr).map (·.add (((rd t439 x6_2) : Int).toNat * 5))) := ⟨_, rfl⟩; obtain ⟨c45, hc45⟩ : ∃ c1, c1 = c0 - ((rd t439 x6_2) : Int).toNat := ⟨_, rfl⟩; have hy45 : y456.length = (t452 : Int).toNat - ((rd t439 x6_2) : Int).toNat := (by rw [Ny456.out, List.length_drop, List.length_take] <;> omega); rw [show ((l0).take (t452 : Int).toNat).drop ((rd t439 x6_2) : Int).toNat = y456 from Ny456.out.symm] at hr45; replace hr45 : Kd.F k25 _ _ A45 y456.length y456 := (by rw [hA45]; exact hr45); rw [← hy45, ← hA45, ← hc45] at hcut45; have HO460 := Aside0.mk (show Kd.V k25 25 _ w.heap.size _ (.slice A45 y456.length c45) y456 from Kd.V_mk (by rw [hy45, hc45]; exact Nat.sub_le_sub_right (Nat.le_trans (by omega) hroom45) _) hr45); have HC460 := Aside0.mk (show y456.length ≤ c45 from by rw [hy45, hc45]; exact Nat.sub_le_sub_right (Nat.le_trans (by omega) hroom45) _); clear hr45 hC45 hroom45 hi045 hsz45 hc45; have KY45 := Aside0.mk hy45; have KA45 := Aside0.mk hA45; clear hy45 hA45; replace q45 := eq_true q45) | (go_at_call 28; (with_reducible refine (tree_May.calls kj17 _ _ y456 true _ ?side1 ?side2 A32.out).mono ?_); (case side1 => repeat (first | exact (Kd.V_reads' HO460.out).2.2 | (with_reducible refine Kd.C_alloc ?_ _) | (with_reducible refine Kd.C_drewN ?_ _) | (with_reducible refine Kd.C_drew ?_))); (case side2 => exact (Kd.V_reads' HO460.out).2.1); rintro e w46 ⟨rfl, hb⟩; have n0_ := Aside0.mk (Kd.V_below (by (with_reducible repeat (first | apply Kd.V_alloc | apply Kd.V_drewN | apply Kd.V_drew)); exact HO_0.out) hb); have n1_ := Aside0.mk (Kd.R_below (by (with_reducible repeat (first | apply Kd.R_alloc | apply Kd.R_drewN | apply Kd.R_drew)); exact HO_4.out) hb); have n2_ := Aside0.mk (Kd.N_below (by (with_reducible repeat (first | apply Kd.N_alloc | apply Kd.N_drewN | apply Kd.N_drew)); exact HO_5.out) hb); have n3_ := Aside0.mk (Kd.V_below (by (with_reducible repeat (first | apply Kd.V_alloc | apply Kd.V_drewN | apply Kd.V_drew)); exact HO460.out) hb); have n4_ := Aside0.mk (below_step (by repeat (first | (with_reducible first | exact HB.out | apply below_alloc | apply pw_below_drewN | apply below_drew1) | exact HB.out)) hb); clear HO_0; clear HO_4; clear HO_5; clear HO460; clear HB; have HO_0 := n0_; have HO_4 := n1_; have HO_5 := n2_; have HO460 := n3_; have HB := n4_; clear n0_ n1_ n2_ n3_ n4_; (try clear hb); (try clear hb2); (try clear hk); (try clear hi); have p462 : 0 ≤ (x6_2 : Int) := of_decide_eq_true (by first | (with_reducible assumption) | assumption); have q462 : x6_2 < (t439.length : Int) := of_decide_eq_true (by first | (with_reducible assumption) | assumption); obtain ⟨ad462, e462, hx462_0⟩ := Kd.at_int (Kd.R_reads' HO_4.out).2.2 x6_2 p462 q462; obtain rfl : ad451 = ad462 := (by injection e462); replace p462 := eq_true p462; replace q462 := eq_true q462; have q47 : (t452 : Int) ≤ ((l0.length : Int) : Int) := of_decide_eq_true (by first | (with_reducible assumption) | assumption); obtain ⟨i047, hi047, _, hsz47, _⟩ := info_parts info25; have hroom47 : l0.length ≤ c0 := (Kd.V_reads' HO_0.out).2.1; have hC47 : Kd.F k25 _ _ (some ad442) l0.length l0 := (Kd.V_at (base := w.heap.size) HO_0.out).2.2; have ql47 : ((rd t439 x6_2) : Int) ≤ (t452 : Int) := of_decide_eq_true (by first | (with_reducible assumption) | assumption); have q047 : (0 : Int) ≤ ((rd t439 x6_2) : Int) := of_decide_eq_true (by first | (with_reducible assumption) | assumption); (try clear hcut45); have hcut47 := cut_mid (P := Try.prog) 22 25 .i64 .i64 Try.underlying22 hi047 5 hsz47 (some ad442) l0.length c0 (rd t439 x6_2) t452 q047 ql47 q47 hroom47; have hr47 := Kd.F_mid (lo := ((rd t439 x6_2) : Int).toNat) (hi := (t452 : Int).toNat) (c := c0) hC47 (by omega) (by omega) hroom47; obtain ⟨A47, hA47⟩ : ∃ A1, A1 = (if c0 = ((rd t439 x6_2) : Int).toNat then (some ad442) else ((some ad442) : Option Addr).map (·.add (((rd t439 x6_2) : Int).toNat * 5))) := ⟨_, rfl⟩; obtain ⟨c47, hc47⟩ : ∃ c1, c1 = c0 - ((rd t439 x6_2) : Int).toNat := ⟨_, rfl⟩; have hy47 : y463.length = (t452 : Int).toNat - ((rd t439 x6_2) : Int).toNat := (by rw [Ny463.out, List.length_drop, List.length_take] <;> omega); rw [show ((l0).take (t452 : Int).toNat).drop ((rd t439 x6_2) : Int).toNat = y463 from Ny463.out.symm] at hr47; replace hr47 : Kd.F k25 _ _ A47 y463.length y463 := (by rw [hA47]; exact hr47); rw [← hy47, ← hA47, ← hc47] at hcut47; have HO467 := Aside0.mk (show Kd.V k25 25 _ w.heap.size _ (.slice A47 y463.length c47) y463 from Kd.V_mk (by rw [hy47, hc47]; exact Nat.sub_le_sub_right (Nat.le_trans (by omega) hroom47) _) hr47); have HC467 := Aside0.mk (show y463.length ≤ c47 from by rw [hy47, hc47]; exact Nat.sub_le_sub_right (Nat.le_trans (by omega) hroom47) _); clear hr47 hC47 hroom47 hi047 hsz47 hc47; have KY47 := Aside0.mk hy47; have KA47 := Aside0.mk hA47; clear hy47 hA47; replace q47 := eq_true q47) | (go_at_call 26; (with_reducible refine (tree_Depth.calls kj17 _ _ y463 t468 _ ?side1 ?side2 A37.out).mono ?_); (case side1 => repeat (first | exact (Kd.V_reads' HO467.out).2.2 | (with_reducible refine Kd.C_alloc ?_ _) | (with_reducible refine Kd.C_drewN ?_ _) | (with_reducible refine Kd.C_drew ?_))); (case side2 => exact (Kd.V_reads' HO467.out).2.1); rintro e w48 ⟨rfl, hb⟩; have n0_ := Aside0.mk (Kd.V_below (by (with_reducible repeat (first | apply Kd.V_alloc | apply Kd.V_drewN | apply Kd.V_drew)); exact HO_0.out) hb); have n1_ := Aside0.mk (Kd.R_below (by (with_reducible repeat (first | apply Kd.R_alloc | apply Kd.R_drewN | apply Kd.R_drew)); exact HO_4.out) hb); have n2_ := Aside0.mk (Kd.N_below (by (with_reducible repeat (first | apply Kd.N_alloc | apply Kd.N_drewN | apply Kd.N_drew)); exact HO_5.out) hb); have n3_ := Aside0.mk (Kd.V_below (by (with_reducible repeat (first | apply Kd.V_alloc | apply Kd.V_drewN | apply Kd.V_drew)); exact HO460.out) hb); have n4_ := Aside0.mk (Kd.V_below (by (with_reducible repeat (first | apply Kd.V_alloc | apply Kd.V_drewN | apply Kd.V_drew)); exact HO467.out) hb); have n5_ := Aside0.mk (below_step (by repeat (first | (with_reducible first | exact HB.out | apply below_alloc | apply pw_below_drewN | apply below_drew1) | exact HB.out)) hb); clear HO_0; clear HO_4; clear HO_5; clear HO460; clear HO467; clear HB; have HO_0 := n0_; have HO_4 := n1_; have HO_5 := n2_; have HO460 := n3_; have HO467 := n4_; have HB := n5_; clear n0_ n1_ n2_ n3_ n4_ n5_; (try clear hb); (try clear hb2); (try clear hk); (try clear hi)) | (go_at_call 26; (with_reducible refine (tree_Depth.calls kj17 _ _ l0 t469 _ ?side1 ?side2 A38.out).mono ?_); (case side1 => repeat (first | exact (Kd.V_reads' HO_0.out).2.2 | (with_reducible refine Kd.C_alloc ?_ _) | (with_reducible refine Kd.C_drewN ?_ _) | (with_reducible refine Kd.C_drew ?_))); (case side2 => exact (Kd.V_reads' HO_0.out).2.1); rintro e w49 ⟨rfl, hb⟩; have n0_ := Aside0.mk (Kd.V_below (by (with_reducible repeat (first | apply Kd.V_alloc | apply Kd.V_drewN | apply Kd.V_drew)); exact HO_0.out) hb); have n1_ := Aside0.mk (Kd.R_below (by (with_reducible repeat (first | apply Kd.R_alloc | apply Kd.R_drewN | apply Kd.R_drew)); exact HO_4.out) hb); have n2_ := Aside0.mk (Kd.N_below (by (with_reducible repeat (first | apply Kd.N_alloc | apply Kd.N_drewN | apply Kd.N_drew)); exact HO_5.out) hb); have n3_ := Aside0.mk (Kd.V_below (by (with_reducible repeat (first | apply Kd.V_alloc | apply Kd.V_drewN | apply Kd.V_drew)); exact HO460.out) hb); have n4_ := Aside0.mk (Kd.V_below (by (with_reducible repeat (first | apply Kd.V_alloc | apply Kd.V_drewN | apply Kd.V_drew)); exact HO467.out) hb); have n5_ := Aside0.mk (below_step (by repeat (first | (with_reducible first | exact HB.out | apply below_alloc | apply pw_below_drewN | apply below_drew1) | exact HB.out)) hb); clear HO_0; clear HO_4; clear HO_5; clear HO460; clear HO467; clear HB; have HO_0 := n0_; have HO_4 := n1_; have HO_5 := n2_; have HO460 := n3_; have HO467 := n4_; have HB := n5_; clear n0_ n1_ n2_ n3_ n4_ n5_; (try clear hb); (try clear hb2); (try clear hk); (try clear hi); have p470 : 0 ≤ (x6_2 : Int) := of_decide_eq_true (by first | (with_reducible assumption) | assumption); have q470 : x6_2 < (t439.length : Int) := of_decide_eq_true (by first | (with_reducible assumption) | assumption); obtain ⟨ad470, e470, hx470_0⟩ := Kd.at_int (Kd.R_reads' HO_4.out).2.2 x6_2 p470 q470; obtain rfl : ad451 = ad470 := (by injection e470); replace p470 := eq_true p470; replace q470 := eq_true q470; have q50 : (t452 : Int) ≤ ((l0.length : Int) : Int) := of_decide_eq_true (by first | (with_reducible assumption) | assumption); obtain ⟨i050, hi050, _, hsz50, _⟩ := info_parts info25; have hroom50 : l0.length ≤ c0 := (Kd.V_reads' HO_0.out).2.1; have hC50 : Kd.F k25 _ _ (some ad442) l0.length l0 := (Kd.V_at (base := w.heap.size) HO_0.out).2.2; have ql50 : ((rd t439 x6_2) : Int) ≤ (t452 : Int) := of_decide_eq_true (by first | (with_reducible assumption) | assumption); have q050 : (0 : Int) ≤ ((rd t439 x6_2) : Int) := of_decide_eq_true (by first | (with_reducible assumption) | assumption); (try clear hcut45); (try clear hcut47); have hcut50 := cut_mid (P := Try.prog) 22 25 .i64 .i64 Try.underlying22 hi050 5 hsz50 (some ad442) l0.length c0 (rd t439 x6_2) t452 q050 ql50 q50 hroom50; have hr50 := Kd.F_mid (lo := ((rd t439 x6_2) : Int).toNat) (hi := (t452 : Int).toNat) (c := c0) hC50 (by omega) (by omega) hroom50; obtain ⟨A50, hA50⟩ : ∃ A1, A1 = (if c0 = ((rd t439 x6_2) : Int).toNat then (some ad442) else ((some ad442) : Option Addr).map (·.add (((rd t439 x6_2) : Int).toNat * 5))) := ⟨_, rfl⟩; obtain ⟨c50, hc50⟩ : ∃ c1, c1 = c0 - ((rd t439 x6_2) : Int).toNat := ⟨_, rfl⟩; have hy50 : y471.length = (t452 : Int).toNat - ((rd t439 x6_2) : Int).toNat := (by rw [Ny471.out, List.length_drop, List.length_take] <;> omega); rw [show ((l0).take (t452 : Int).toNat).drop ((rd t439 x6_2) : Int).toNat = y471 from Ny471.out.symm] at hr50; replace hr50 : Kd.F k25 _ _ A50 y471.length y471 := (by rw [hA50]; exact hr50); rw [← hy50, ← hA50, ← hc50] at hcut50; have HO475 := Aside0.mk (show Kd.V k25 25 _ w.heap.size _ (.slice A50 y471.length c50) y471 from Kd.V_mk (by rw [hy50, hc50]; exact Nat.sub_le_sub_right (Nat.le_trans (by omega) hroom50) _) hr50); have HC475 := Aside0.mk (show y471.length ≤ c50 from by rw [hy50, hc50]; exact Nat.sub_le_sub_right (Nat.le_trans (by omega) hroom50) _); clear hr50 hC50 hroom50 hi050 hsz50 hc50; have KY50 := Aside0.mk hy50; have KA50 := Aside0.mk hA50; clear hy50 hA50; replace q50 := eq_true q50) | ((with_reducible refine gate_builtin (b := .append) (xs := #[.tmp 99, .tmp 106]) rfl ?_); (try (refine gate_guard (by rfl) ?_; dsimp only)); at_builtin; refine Kd.N_append_rows k25 (w0 := w) w.heap.size rfl (.tmp 99) (.tmp 106) 22 25 (.agg #[(.int .i64 0), (.string ⟨#[]⟩), (.string ⟨#[]⟩), (.string ⟨#[]⟩), (.slice none 0 0)]) 80 rfl Try.underlying22 info25 rfl (by decide) (by omega) u5 x5_2 y471 _ _ _ (fun k_ => (P0_ k_ ∨ w.heap.size ≤ k_) ∧ some k_ ≠ (.slice (some ad451) t439.length co19 : Value).ownBlock) (fun k_ => ((fun k_ => (P0_ k_ ∨ w.heap.size ≤ k_) ∧ some k_ ≠ (.slice (some ad451) t439.length co19 : Value).ownBlock)) k_ ∧ some k_ ≠ (u5 : Value).ownBlock) rfl rfl ?aO ?aR (fun _ hk => hk) ?aF ?aB ?aS ?aL ?_; (case aR => exact (by skip; exact Kd.V_F (Kd.V_mono (ok' := (fun k_ => ((fun k_ => (P0_ k_ ∨ w.heap.size ≤ k_) ∧ some k_ ≠ (.slice (some ad451) t439.length co19 : Value).ownBlock)) k_ ∧ some k_ ≠ (u5 : Value).ownBlock)) (HO475.out) (fun k_ hk => ⟨⟨hk.1, hk.2.1⟩, hk.2.2⟩)))); (case aB => exact (by repeat (first | (with_reducible first | exact HB.out | apply below_alloc | apply pw_below_drewN | apply below_drew1) | exact HB.out))); (case aF => exact (fun k_ hk => ⟨(.inr (Nat.le_trans (below_size (by repeat (first | (with_reducible first | exact HB.out | apply below_alloc | apply pw_below_drewN | apply below_drew1) | exact HB.out))) hk)), Kd.fresh' (Kd.R_lt (by (with_reducible repeat (first | apply Kd.R_alloc | apply Kd.R_drewN | apply Kd.R_drew)); exact HO_4.out)) k_ hk⟩)); (case aO => exact (by (with_reducible repeat (first | apply Kd.N_alloc | apply Kd.N_drewN | apply Kd.N_drew)); exact HO_5.out)); (case aS => exact (below_size (by repeat (first | (with_reducible first | exact HB.out | apply below_alloc | apply pw_below_drewN | apply below_drew1) | exact HB.out)))); (case aL => have := LMc43.out; omega); intro v477 w51 ho hb hg hat; rw [← Ny476.out] at ho; have n0_ := Aside0.mk (Kd.V_afterv (ok := (fun k_ => (P0_ k_ ∨ w.heap.size ≤ k_) ∧ some k_ ≠ (.slice (some ad451) t439.length co19 : Value).ownBlock)) (by (with_reducible repeat (first | apply Kd.V_alloc | apply Kd.V_drewN | apply Kd.V_drew)); exact Kd.V_mono HO_0.out (fun _ hk => ⟨⟨hk.1, hk.2.1⟩, hk.2.2⟩)) hg hat); have n1_ := Aside0.mk (Kd.R_over' (by (with_reducible repeat (first | apply Kd.R_alloc | apply Kd.R_drewN | apply Kd.R_drew)); exact HO_4.out) (Kd.N_typed (by (with_reducible repeat (first | apply Kd.N_alloc | apply Kd.N_drewN | apply Kd.N_drew)); exact HO_5.out)) (by decide) hg); have n2_ := Aside0.mk (Kd.V_afterv (ok := (fun k_ => (P0_ k_ ∨ w.heap.size ≤ k_) ∧ some k_ ≠ (.slice (some ad451) t439.length co19 : Value).ownBlock)) (by (with_reducible repeat (first | apply Kd.V_alloc | apply Kd.V_drewN | apply Kd.V_drew)); exact Kd.V_mono HO460.out (fun _ hk => ⟨⟨hk.1, hk.2.1⟩, hk.2.2⟩)) hg hat); have n3_ := Aside0.mk (Kd.V_afterv (ok := (fun k_ => (P0_ k_ ∨ w.heap.size ≤ k_) ∧ some k_ ≠ (.slice (some ad451) t439.length co19 : Value).ownBlock)) (by (with_reducible repeat (first | apply Kd.V_alloc | apply Kd.V_drewN | apply Kd.V_drew)); exact Kd.V_mono HO467.out (fun _ hk => ⟨⟨hk.1, hk.2.1⟩, hk.2.2⟩)) hg hat); have n4_ := Aside0.mk (Kd.V_afterv (ok := (fun k_ => (P0_ k_ ∨ w.heap.size ≤ k_) ∧ some k_ ≠ (.slice (some ad451) t439.length co19 : Value).ownBlock)) (by (with_reducible repeat (first | apply Kd.V_alloc | apply Kd.V_drewN | apply Kd.V_drew)); exact Kd.V_mono HO475.out (fun _ hk => ⟨⟨hk.1, hk.2.1⟩, hk.2.2⟩)) hg hat); have n5_ := Aside0.mk (hb); have n6_ := Aside0.mk (ho); clear HO_0; clear HO_4; clear HO460; clear HO467; clear HO475; clear HB; clear HO_5; have HO_0 := n0_; have HO_4 := n1_; have HO460 := n2_; have HO467 := n3_; have HO475 := n4_; have HB := n5_; have HO478 := n6_; clear n0_ n1_ n2_ n3_ n4_ n5_ n6_; clear ho hb hg hat))
                                            go_roundg kj17
                                            case measure => have := HJ2.out; have := HK2.out; have := HJ17.out; omega
                                            case rel => exact ⟨(y476), (wrap64 (x6_2 + 1)), (by first | rfl | (simp; done) | (simp [*]; done)), H', ⟨by have := HJ2.out; have := HK2.out; have := HJ17.out; omega⟩, ⟨by (with_reducible repeat (first | apply Kd.V_alloc | apply Kd.V_drewN | apply Kd.V_drew)); exact Kd.V_mono HO_0.out (fun _ hk => ⟨hk.1.1, ⟨hk.1.2, hk.2⟩⟩)⟩, ⟨by (with_reducible repeat (first | apply Kd.R_alloc | apply Kd.R_drewN | apply Kd.R_drew)); exact HO_4.out⟩, ⟨by (with_reducible repeat (first | apply Kd.N_alloc | apply Kd.N_drewN | apply Kd.N_drew)); exact HO478.out⟩, ⟨by repeat (first | (with_reducible first | exact HB.out | apply below_alloc | apply pw_below_drewN | apply below_drew1) | exact HB.out)⟩⟩
                                          · rw [if_neg c43] at H
                                            exact absurd H (by simp)
                                      · replace c33 := Bool.eq_false_iff.mpr c33
                                        subst c33
                                        have H1 : (none) = some r := by rw [if_neg (show ¬ (false = true) by decide)] at H; exact H
                                        clear H
                                        have H := H1
                                        clear H1
                                        exact absurd H (by simp)
                                    · rw [if_neg c31] at H
                                      exact absurd H (by simp)
                                  · rw [if_neg c30] at H
                                    exact absurd H (by simp)
                                · rw [if_neg c29] at H
                                  exact absurd H (by simp)
                          · replace c26 := Bool.eq_false_iff.mpr c26
                            subst c26
                            have H1 : (none) = some r := by rw [if_neg (show ¬ (false = true) by decide)] at H; exact H
                            clear H
                            have H := H1
                            clear H1
                            exact absurd H (by simp)
                        · rw [if_neg c24] at H
                          exact absurd H (by simp)
                      · rw [if_neg c23] at H
                        exact absurd H (by simp)
              · rw [if_neg c17] at H
                have c17b0 : decide (x6_2 < (t439.length : Int)) = false := decide_eq_false c17
                clear c17
                by_cases c52 : t436 = true
                · subst c52
                  have H1 : ((tree_Same.f k2 x5_2 l0).bind fun t446 => (if t446 = true then (if 0 < (l0.length : Int) then ((tree_Kids.f k2 ((rd_T25 l0 0).f0) ((rd_T25 l0 0).f1) ((rd_T25 l0 0).f2) ((rd_T25 l0 0).f3) ((rd_T25 l0 0).f4)).bind fun t448 => (some ((t439.length : Int) == t448))) else (none)) else (none))) = some r := by rw [if_pos rfl] at H; exact H
                  clear H
                  have H := H1
                  clear H1
                  replace H := Option.bind_eq_some_iff.mp H
                  obtain ⟨t446, A530, H⟩ := H
                  replace H : (if t446 = true then (if 0 < (l0.length : Int) then ((tree_Kids.f k2 ((rd_T25 l0 0).f0) ((rd_T25 l0 0).f1) ((rd_T25 l0 0).f2) ((rd_T25 l0 0).f3) ((rd_T25 l0 0).f4)).bind fun t448 => (some ((t439.length : Int) == t448))) else (none)) else (none)) = some r := H
                  have A53 := Aside0.mk A530
                  clear A530
                  by_cases c54 : t446 = true
                  · subst c54
                    have H1 : (if 0 < (l0.length : Int) then ((tree_Kids.f k2 ((rd_T25 l0 0).f0) ((rd_T25 l0 0).f1) ((rd_T25 l0 0).f2) ((rd_T25 l0 0).f3) ((rd_T25 l0 0).f4)).bind fun t448 => (some ((t439.length : Int) == t448))) else (none)) = some r := by rw [if_pos rfl] at H; exact H
                    clear H
                    have H := H1
                    clear H1
                    by_cases c55 : 0 < (l0.length : Int)
                    · rw [if_pos c55] at H
                      have c55b0 : decide (0 < (l0.length : Int)) = true := decide_eq_true c55
                      have c55b1 : decide (0 < l0.length) = true := decide_eq_true (by omega)
                      clear c55
                      replace H := Option.bind_eq_some_iff.mp H
                      obtain ⟨t448, A560, H⟩ := H
                      replace H : (some ((t439.length : Int) == t448)) = some r := H
                      have A56 := Aside0.mk A560
                      clear A560
                      obtain rfl := Option.some.inj H
                      obtain ⟨Ao57, co57, eo57⟩ := Kd.R_slice HO_4.out
                      subst eo57
                      obtain ⟨Ao58, co58, eo58⟩ := Kd.N_slice HO_5.out
                      subst eo58
                      go_wp2_with (first | (go_at_call 30; (with_reducible refine (tree_Same.calls k2 _ _ x5_2 _ _ l0 true _ ?side1 ?side2 ?side3 ?side4 A53.out).mono ?_); (case side1 => repeat (first | exact (Kd.N_reads' HO_5.out).2.2 | (with_reducible refine Kd.C_alloc ?_ _) | (with_reducible refine Kd.C_drewN ?_ _) | (with_reducible refine Kd.C_drew ?_))); (case side2 => exact (Kd.N_reads' HO_5.out).2.1); (case side3 => repeat (first | exact (Kd.V_reads' HO_0.out).2.2 | (with_reducible refine Kd.C_alloc ?_ _) | (with_reducible refine Kd.C_drewN ?_ _) | (with_reducible refine Kd.C_drew ?_))); (case side4 => exact (Kd.V_reads' HO_0.out).2.1); rintro e w59 ⟨rfl, hb⟩; have n0_ := Aside0.mk (Kd.V_below (by (with_reducible repeat (first | apply Kd.V_alloc | apply Kd.V_drewN | apply Kd.V_drew)); exact HO_0.out) hb); have n1_ := Aside0.mk (Kd.R_below (by (with_reducible repeat (first | apply Kd.R_alloc | apply Kd.R_drewN | apply Kd.R_drew)); exact HO_4.out) hb); have n2_ := Aside0.mk (Kd.N_below (by (with_reducible repeat (first | apply Kd.N_alloc | apply Kd.N_drewN | apply Kd.N_drew)); exact HO_5.out) hb); have n3_ := Aside0.mk (below_step (by repeat (first | (with_reducible first | exact HB.out | apply below_alloc | apply pw_below_drewN | apply below_drew1) | exact HB.out)) hb); clear HO_0; clear HO_4; clear HO_5; clear HB; have HO_0 := n0_; have HO_4 := n1_; have HO_5 := n2_; have HB := n3_; clear n0_ n1_ n2_ n3_; (try clear hb); (try clear hb2); (try clear hk); (try clear hi); have p447 : 0 ≤ (0 : Int) := (by omega); have q447 : 0 < (l0.length : Int) := of_decide_eq_true (by first | (with_reducible assumption) | assumption); obtain ⟨ad447, A447_4, c447_4, e447, hx447_0, hx447_1, hx447_2, hx447_3, hx447_4, hl447_4, hi447_4⟩ := at_T25 (Kd.V_reads' HO_0.out).2.2 0 p447 q447; obtain rfl : ad442 = ad447 := (by injection e447); obtain ⟨ce447, hce447, hMe447, hcc447⟩ := Kd.V_get HO_0.out z25 0 p447 (by first | exact q447 | exact of_decide_eq_true (by first | (with_reducible assumption) | assumption) | (have e_ := (Kd.V_reads' HO_0.out).1; omega)); obtain ⟨ua447_4, uc447_4, rfl, ul447_4, ge447_4⟩ := k25_openF hMe447; have hv447_4 := hcc447 4 _ rfl; rw [add_field _ _ 4 (by omega)] at hv447_4; replace hv447_4 := Option.some.inj (hv447_4.symm.trans hx447_4); injection hv447_4 with hva_ hvn_ hvc_; rw [hva_] at ge447_4; rw [hvc_] at ul447_4; have HL447_4 := Aside0.mk (show Kd.V Kd.string 9 _ w.heap.size _ _ ((rd_T25 l0 0).f4) from Kd.V_mk ul447_4 ge447_4); clear hva_ hvn_ hvc_ ge447_4 ul447_4; clear hcc447 hce447; have qi447 : (0 < l0.length) = True := eq_true (by omega); (try rw [show ((0 : Int)).toNat = 0 from rfl] at hx447_0); (try rw [show 0 * 5 = 0 from rfl] at hx447_0); (try rw [Addr.add_zero'] at hx447_0); (try rw [show ((0 : Int)).toNat = 0 from rfl] at hx447_1); (try rw [show 0 * 5 = 0 from rfl] at hx447_1); (try rw [Addr.add_zero'] at hx447_1); (try rw [show ((0 : Int)).toNat = 0 from rfl] at hx447_2); (try rw [show 0 * 5 = 0 from rfl] at hx447_2); (try rw [Addr.add_zero'] at hx447_2); (try rw [show ((0 : Int)).toNat = 0 from rfl] at hx447_3); (try rw [show 0 * 5 = 0 from rfl] at hx447_3); (try rw [Addr.add_zero'] at hx447_3); (try rw [show ((0 : Int)).toNat = 0 from rfl] at hx447_4); (try rw [show 0 * 5 = 0 from rfl] at hx447_4); (try rw [Addr.add_zero'] at hx447_4); have HR447_4 := Aside0.mk hi447_4; have HC447_4 := Aside0.mk hl447_4; clear hi447_4 hl447_4; replace p447 := eq_true p447; replace q447 := eq_true q447) | (go_at_call 21; (with_reducible refine (tree_Kids.calls k2 ((rd_T25 l0 0).f0) ((rd_T25 l0 0).f1) ((rd_T25 l0 0).f2) ((rd_T25 l0 0).f3) _ _ ((rd_T25 l0 0).f4) t448 _ ?side1 ?side2 A56.out).mono ?_); (case side1 => repeat (first | exact (by repeat (first | (with_reducible exact HR447_4.out) | (with_reducible refine Kd.C_alloc ?_ _) | (with_reducible refine Kd.C_drewN ?_ _) | (with_reducible refine Kd.C_drew ?_) | exact HR447_4.out)) | (with_reducible refine Kd.C_alloc ?_ _) | (with_reducible refine Kd.C_drewN ?_ _) | (with_reducible refine Kd.C_drew ?_))); (case side2 => exact HC447_4.out); rintro e w60 ⟨rfl, hb⟩; have n0_ := Aside0.mk (Kd.V_below (by (with_reducible repeat (first | apply Kd.V_alloc | apply Kd.V_drewN | apply Kd.V_drew)); exact HO_0.out) hb); have n1_ := Aside0.mk (Kd.R_below (by (with_reducible repeat (first | apply Kd.R_alloc | apply Kd.R_drewN | apply Kd.R_drew)); exact HO_4.out) hb); have n2_ := Aside0.mk (Kd.N_below (by (with_reducible repeat (first | apply Kd.N_alloc | apply Kd.N_drewN | apply Kd.N_drew)); exact HO_5.out) hb); have n3_ := Aside0.mk (Kd.V_below (by (with_reducible repeat (first | apply Kd.V_alloc | apply Kd.V_drewN | apply Kd.V_drew)); exact HL447_4.out) hb); have n4_ := Aside0.mk (Kd.C_below (by repeat (first | (with_reducible exact HR447_4.out) | (with_reducible refine Kd.C_alloc ?_ _) | (with_reducible refine Kd.C_drewN ?_ _) | (with_reducible refine Kd.C_drew ?_) | exact HR447_4.out)) hb); have n5_ := Aside0.mk (below_step (by repeat (first | (with_reducible first | exact HB.out | apply below_alloc | apply pw_below_drewN | apply below_drew1) | exact HB.out)) hb); clear HO_0; clear HO_4; clear HO_5; clear HL447_4; clear HR447_4; clear HB; have HO_0 := n0_; have HO_4 := n1_; have HO_5 := n2_; have HL447_4 := n3_; have HR447_4 := n4_; have HB := n5_; clear n0_ n1_ n2_ n3_ n4_ n5_; (try clear hb); (try clear hb2); (try clear hk); (try clear hi)))
                      go_ret
                      exact ⟨by first | rfl | (simp [errW_none, errW_some] <;> rfl) | (simp [*, errW_none, errW_some] <;> rfl), by repeat (first | (with_reducible first | exact HB.out | apply below_alloc | apply pw_below_drewN | apply below_drew1) | exact HB.out)⟩
                    · rw [if_neg c55] at H
                      exact absurd H (by simp)
                  · replace c54 := Bool.eq_false_iff.mpr c54
                    subst c54
                    have H1 : (none) = some r := by rw [if_neg (show ¬ (false = true) by decide)] at H; exact H
                    clear H
                    have H := H1
                    clear H1
                    exact absurd H (by simp)
                · replace c52 := Bool.eq_false_iff.mpr c52
                  subst c52
                  have H1 : (none) = some r := by rw [if_neg (show ¬ (false = true) by decide)] at H; exact H
                  clear H
                  have H := H1
                  clear H1
                  exact absurd H (by simp)
        · rw [if_neg c13] at H
          exact absurd H (by simp)
def reredoslaw08_TreeParts.Pure : Prop := ∀ (l0 : List (S25)), (l0.length ≤ maxLen ∧ ∀ e_ ∈ l0, (((Lit.int .i64 e_.f0).wf = true) ∧ (e_.f1.size ≤ maxLen) ∧ (e_.f2.size ≤ maxLen) ∧ (e_.f3.size ≤ maxLen) ∧ (e_.f4.length ≤ maxLen ∧ ∀ ee_ ∈ e_.f4, (ee_.size ≤ maxLen)))) → ∃ k, reredoslaw08_TreeParts.f k l0 = some true
end Go.Proofs.Ytdelccahgchadaa.P
end
section
namespace Go.Proofs.Ytdelccahgchadaa
open Go.ChangeShapes Go.WideShapes Go.ChangeAt Go.RowKit Go.Deep Go.Proofs.YtdelccahgchadaaW.PrintWords Go.Proofs.YtdelccahgchadaaW.PrintLast Go.Proofs.YtdelccahgchadaaW.PrintMore
set_option linter.unusedVariables false
def Opens {H : Type} (enc : TypeId × Value → H) (P : Program) (w : World) (t : TypeId) {α : Type} (K : Kd α) (wf : α → Prop) : Prop :=
  ∀ (spare : Nat → Bool) (held : Bool) (fuel : Nat) (cs : List Value) (x : DataW H × List MemPlace), DataW.trod enc P w 0 spare held fuel t cs = some x → ∃ a, K.K w a cs ∧ wf a
section
variable {H : Type} {enc : TypeId × Value → H} {P : Program} {w : World}
theorem opens_int {t : TypeId} {k : IntKind} (hu : P.underlying t = some (.int k)) : Opens enc P w t (Kd.int k) (fun n => (Lit.int k n).wf = true) := fun spare held fuel cs x h => by
  obtain ⟨n, rfl, _, hw⟩ := DataW.trod_int hu h
  exact ⟨n, rfl, hw⟩
theorem opens_string {t : TypeId} (hu : P.underlying t = some .string) : Opens enc P w t Kd.string (fun s => s.size ≤ maxLen) := fun spare held fuel cs x h => by
  obtain ⟨n, rfl, _, hw⟩ := DataW.trod_string hu h
  exact ⟨n, rfl, hw⟩
theorem choose_list {α : Type} (n : Nat) (p : Nat → α → Prop) (h : ∀ i, i < n → ∃ a, p i a) : ∃ l : List α, l.length = n ∧ ∀ i a, l[i]? = some a → p i a := by
  induction n with
  | zero => exact ⟨[], rfl, fun i a h => by simp at h⟩
  | succ n ih =>
    obtain ⟨l, hl, hp⟩ := ih fun i hi => h i (by omega)
    obtain ⟨a, ha⟩ := h n (by omega)
    refine ⟨l ++ [a], by simp [hl], fun i b hb => ?_⟩
    rcases Nat.lt_or_ge i l.length with hi | hi
    · rw [List.getElem?_append_left hi] at hb
      exact hp i b hb
    · have hi' : i = l.length := by
        have := (List.getElem?_eq_some_iff.1 hb).1
        simp at this
        omega
      subst hi'
      simp at hb
      subst hb
      rw [hl]
      exact ha
theorem opens_slice {t e : TypeId} {α : Type} {K : Kd α} {wf : α → Prop} (hu : P.underlying t = some (.slice e)) (hsz : P.cellsOf e = K.sz) (h : Opens enc P w e K wf) :
    Opens enc P w t (Kd.slice e K) (fun l => l.length ≤ maxLen ∧ ∀ x ∈ l, wf x) := fun spare held fuel cs x hx => by
  rcases open_slice hu hx with ⟨rfl, _⟩ | ⟨a, len, cap, m, n, D, Pl, rfl, _, hl, hm, hmm, _, hel⟩
  · exact ⟨[], ⟨none, 0, rfl, Nat.le_refl _, ⟨rfl, by simp, fun h0 => absurd h0 (Nat.lt_irrefl 0)⟩⟩, by simp, fun _ hx => by simp at hx⟩
  · have hlm : len ≤ m := by rw [hmm]; split <;> omega
    obtain ⟨l, hll, hp⟩ := choose_list len (fun i x => ∃ cs', w.cells? 0 (a.add (i * P.cellsOf e)) (P.cellsOf e) = some cs' ∧ K.K w x cs' ∧ wf x) fun i hi => by
      obtain ⟨cs', h1, h2⟩ := hel i (by omega)
      obtain ⟨x, h3, h4⟩ := h spare held n cs' _ h2
      exact ⟨x, cs', h1, h3, h4⟩
    subst hll
    refine ⟨l, ⟨some a, cap, rfl, hl, ⟨rfl, by unfold maxLen at hm; omega, fun _ => ⟨a, rfl, fun j p hj => ?_⟩⟩⟩, Nat.le_trans hl hm, fun x hx => ?_⟩
    · obtain ⟨cs', h1, h2, _⟩ := hp j p hj
      refine ⟨cs', K.K_len h2, h2, fun i u hu => ?_⟩
      have hc := World.cells?_some h1
      have hi : i < P.cellsOf e := by
        have h5 := (List.getElem?_eq_some_iff.1 hu).1
        rw [K.K_len h2, ← hsz] at h5
        exact h5
      have := hc.2.2 i hi
      rw [Go.Deep.add_add, hsz] at this
      rw [this]
      exact hu
    · obtain ⟨i, hi⟩ := List.getElem?_of_mem hx
      obtain ⟨_, _, _, h4⟩ := hp i x hi
      exact h4
def OpensF {H : Type} (enc : TypeId × Value → H) (P : Program) (w : World) (fs : List Field) (off : Nat) {α : Type} (K : Kd α) (wf : α → Prop) : Prop :=
  ∀ (spare : Nat → Bool) (held : Bool) (fuel : Nat) (cs : List Value), cs.length = off + K.sz →
    (∀ f ∈ fs, ∃ x, DataW.trod enc P w 0 spare held fuel f.type ((cs.drop f.offset).take (P.cellsOf f.type)) = some x) → ∃ a, K.K w a (cs.drop off) ∧ wf a
theorem opensF_last {f : Field} {off : Nat} {α : Type} {K : Kd α} {wf : α → Prop} (hoff : f.offset = off) (hsz : P.cellsOf f.type = K.sz) (h : Opens enc P w f.type K wf) : OpensF enc P w [f] off K wf := fun spare held fuel cs hl hf => by
  obtain ⟨x, hx⟩ := hf f (List.mem_singleton.2 rfl)
  obtain ⟨a, h1, h2⟩ := h _ _ _ _ _ hx
  refine ⟨a, ?_, h2⟩
  rw [hoff, hsz, List.take_of_length_le (by rw [List.length_drop]; omega)] at h1
  exact h1
theorem opensF_cons {f : Field} {fs : List Field} {off : Nat} {α β : Type} {K : Kd α} {K2 : Kd β} {wf : α → Prop} {wf2 : β → Prop} (hoff : f.offset = off) (hsz : P.cellsOf f.type = K.sz) (h : Opens enc P w f.type K wf) (hr : OpensF enc P w fs (off + K.sz) K2 wf2) :
    OpensF enc P w (f :: fs) off (Kd.pair K K2) (fun a => wf a.1 ∧ wf2 a.2) := fun spare held fuel cs hl hf => by
  obtain ⟨x, hx⟩ := hf f List.mem_cons_self
  obtain ⟨a, h1, h2⟩ := h _ _ _ _ _ hx
  obtain ⟨b, h3, h4⟩ := hr spare held fuel cs (by rw [hl]; show off + (K.sz + K2.sz) = _; omega) (fun g hg => hf g (List.mem_cons_of_mem _ hg))
  refine ⟨(a, b), ⟨_, _, ?_, h1, h3⟩, h2, h4⟩
  rw [hoff, hsz, ← List.drop_drop, List.take_append_drop]
theorem opens_struct {t : TypeId} {fs : Array Field} {α : Type} {K : Kd α} {wf : α → Prop} (hu : P.underlying t = some (.struct fs)) (hc : P.cellsOf t = K.sz) (h : OpensF enc P w fs.toList 0 K wf) : Opens enc P w t K wf := fun spare held fuel cs x hx => by
  obtain ⟨xs, n, _, _, hl, hn, hel⟩ := DataW.trod_struct hu hx
  refine h spare held n cs (by rw [hl, hc]; omega) (fun f hf => ?_)
  obtain ⟨i, hi⟩ := List.getElem?_of_mem hf
  have hi' : fs[i]? = some f := by simpa using hi
  have hlt : i < xs.length := by
    rw [hn]
    exact (Array.getElem?_eq_some_iff.1 hi').1
  exact ⟨_, (hel i f hi').trans (List.getElem?_eq_getElem hlt)⟩
theorem opens_iso {t : TypeId} {α β : Type} {K : Kd α} {wf : α → Prop} (f : β → α) (g : α → β) (hfg : ∀ a, f (g a) = a) (h : Opens enc P w t K wf) : Opens enc P w t (Kd.iso K f) (fun b => wf (f b)) := fun spare held fuel cs x hx => by
  obtain ⟨a, h1, h2⟩ := h _ _ _ _ _ hx
  exact ⟨g a, by show K.K w (f (g a)) cs; rw [hfg]; exact h1, by show wf (f (g a)); rw [hfg]; exact h2⟩
theorem arg_slice {t e : TypeId} {α : Type} {K : Kd α} {wf : List α → Prop} {r : Reach} {b0 : Nat} {v : Value} {d : DataW H} {p : List MemPlace} {spare : Nat → Bool} {held : Bool} (hu : P.underlying t = some (.slice e)) (ho : Opens enc P w t (Kd.slice e K) wf)
    (hv : Value.okWide P w r b0 t v) (h : DataW.Trod enc P w 0 spare held t v d p) : ∃ A c l, v = .slice A l.length c ∧ l.length ≤ c ∧ K.C w A l.length l ∧ wf l := by
  obtain ⟨a, len, cap, rfl⟩ := okWide_slice hu hv
  obtain ⟨fuel, hf⟩ := h
  obtain ⟨l, ⟨A, c, he, hl, hc⟩, hw⟩ := ho _ _ _ _ _ hf
  simp only [Value.cells, List.cons.injEq, and_true] at he
  exact ⟨A, c, l, he, hl, hc, hw⟩
theorem trod_places {t : TypeId} {v : Value} {d : DataW H} {p : List MemPlace} {spare : Nat → Bool} {held : Bool} (h : DataW.Trod enc P w 0 spare held t v d p) : ∀ x ∈ p, x.block < w.heap.size := by
  obtain ⟨m, hm⟩ := h
  exact DataW.trod_lt m _ _ _ hm
end
end Go.Proofs.Ytdelccahgchadaa
end
section
namespace Go.Proofs.Ytdelccahgchadaa
open Go.RowKit Go.Proofs.YtdelccahgchadaaW.PrintWords Go.Proofs.YtdelccahgchadaaW.PrintMore
theorem wrap_id {a : Int} (h : -9223372036854775808 ≤ a) (h2 : a ≤ 9223372036854775807) : wrap64 a = a := by unfold wrap64; omega
end Go.Proofs.Ytdelccahgchadaa
end
section
namespace Go.Proofs.Ytdelccahgchadaa
open Go.RowKit Go.Proofs.YtdelccahgchadaaW.PrintWords Go.Proofs.YtdelccahgchadaaW.PrintMore
set_option linter.unusedVariables false
section
variable {α : Type} (kd : α → Int)
def endW : List α → Nat → Option Nat
  | _, 0 => some 0
  | [], _ + 1 => none
  | x :: l, n + 1 => if kd x < 0 then none else (endW l (n + (kd x).toNat)).map (· + 1)
theorem endW_zero (l : List α) : endW kd l 0 = some 0 := by cases l <;> rfl
theorem endW_le {l : List α} : ∀ {n m : Nat}, endW kd l n = some m → m ≤ l.length ∧ (1 ≤ n → 1 ≤ m) := by
  induction l with
  | nil =>
    intro n m h
    cases n with
    | zero => rw [endW_zero] at h; injection h with h; subst h; exact ⟨Nat.le_refl _, fun h => absurd h (by omega)⟩
    | succ n => cases h
  | cons x l ih =>
    intro n m h
    cases n with
    | zero => rw [endW_zero] at h; injection h with h; subst h; exact ⟨Nat.zero_le _, fun h => absurd h (by omega)⟩
    | succ n =>
      simp only [endW] at h
      split at h
      · cases h
      · obtain ⟨j, hj, rfl⟩ := Option.map_eq_some_iff.1 h
        have := (ih hj).1
        rw [List.length_cons]
        exact ⟨by omega, fun _ => by omega⟩
theorem endW_add {l : List α} : ∀ (a b : Nat), endW kd l (a + b) = (endW kd l a).bind fun m => (endW kd (l.drop m) b).map (m + ·) := by
  induction l with
  | nil =>
    intro a b
    cases a with
    | zero => rw [endW_zero, Nat.zero_add]; simp only [Option.bind_some, List.drop_zero]; cases endW kd ([] : List α) b <;> simp
    | succ a => rw [Nat.succ_add]; rfl
  | cons x l ih =>
    intro a b
    cases a with
    | zero => rw [endW_zero, Nat.zero_add]; simp only [Option.bind_some, List.drop_zero]; cases endW kd (x :: l) b <;> simp
    | succ a =>
      rw [show a + 1 + b = (a + b) + 1 by omega]
      simp only [endW]
      by_cases h : kd x < 0
      · rw [if_pos h, if_pos h]; rfl
      · rw [if_neg h, if_neg h, show a + b + (kd x).toNat = (a + (kd x).toNat) + b by omega, ih]
        cases endW kd l (a + (kd x).toNat) with
        | none => rfl
        | some m =>
          simp only [Option.bind_some, Option.map_some, List.drop_succ_cons]
          cases endW kd (l.drop m) b with
          | none => rfl
          | some j => simp; omega
theorem endW_take {l : List α} : ∀ {n m : Nat}, endW kd l n = some m → endW kd (l.take m) n = some m := by
  induction l with
  | nil =>
    intro n m h
    rw [List.take_nil]; exact h
  | cons x l ih =>
    intro n m h
    cases n with
    | zero => rw [endW_zero] at h ⊢; exact h
    | succ n =>
      simp only [endW] at h
      split at h
      · cases h
      · rename_i hx
        obtain ⟨j, hj, rfl⟩ := Option.map_eq_some_iff.1 h
        rw [List.take_succ_cons]
        simp only [endW]
        rw [if_neg hx, ih hj]; rfl
def dec : List Nat → List Nat
  | [] => []
  | c :: st => if c ≤ 1 then dec st else (c - 1) :: st
def mach : List α → List Nat → Nat → Nat
  | [], _, most => most
  | x :: l, st, most =>
    if (kd x).toNat = 0 then (match dec st with | [] => max most (st.length + 1) | s :: st' => mach l (s :: st') (max most (st.length + 1)))
    else mach l ((kd x).toNat :: st) (max most (st.length + 1))
def fin (st : List Nat) (r : List α) (most : Nat) : Nat := match dec st with | [] => most | s :: st' => mach kd r (s :: st') most
theorem mach_cons0 (x : α) (l : List α) (st : List Nat) (most : Nat) (h : (kd x).toNat = 0) : mach kd (x :: l) st most = fin kd st l (max most (st.length + 1)) := by
  simp only [mach, fin]; rw [if_pos h]
theorem mach_consS (x : α) (l : List α) (st : List Nat) (most : Nat) (h : ¬ (kd x).toNat = 0) : mach kd (x :: l) st most = mach kd l ((kd x).toNat :: st) (max most (st.length + 1)) := by
  simp only [mach]; rw [if_neg h]
theorem mach_max : ∀ (l : List α) (st : List Nat) (most : Nat), mach kd l st most = max most (mach kd l st 0) := by
  intro l
  induction l with
  | nil => intro st most; simp [mach]
  | cons x l ih =>
    intro st most
    simp only [mach]
    by_cases h : (kd x).toNat = 0
    · rw [if_pos h, if_pos h]
      cases dec st with
      | nil => simp only []; omega
      | cons s st' => simp only []; rw [ih, ih (s :: st') (max 0 (st.length + 1))]; omega
    · rw [if_neg h, if_neg h, ih, ih ((kd x).toNat :: st) (max 0 (st.length + 1))]; omega
def need : List Nat → Nat
  | [] => 1
  | c :: st => (c - 1) + need st
theorem need_pos (st : List Nat) : 1 ≤ need st := by
  induction st with
  | nil => exact Nat.le_refl _
  | cons c st ih => simp only [need]; omega
theorem dec_need (st : List Nat) (h : ∀ c ∈ st, 1 ≤ c) : (dec st = [] → need st = 1) ∧ (dec st ≠ [] → need (dec st) = need st - 1) ∧ ∀ c ∈ dec st, 1 ≤ c := by
  induction st with
  | nil => exact ⟨fun _ => rfl, fun h => absurd rfl h, fun c hc => by cases hc⟩
  | cons c st ih =>
    have ih := ih fun d hd => h d (List.mem_cons_of_mem _ hd)
    have hc := h c List.mem_cons_self
    have hp := need_pos st
    simp only [dec, need]
    by_cases h1 : c ≤ 1
    · rw [if_pos h1]
      refine ⟨fun h2 => ?_, fun h2 => ?_, ih.2.2⟩
      · have := ih.1 h2; omega
      · have := ih.2.1 h2; omega
    · rw [if_neg h1]
      refine ⟨fun h2 => (by cases h2), fun _ => ?_, ?_⟩
      · simp only [need]; omega
      · intro d hd
        rcases List.mem_cons.1 hd with e | e
        · omega
        · exact h d (List.mem_cons_of_mem _ e)
theorem dec_nil_append (s st : List Nat) (h : dec s = []) : dec (s ++ st) = dec st := by
  induction s with
  | nil => rfl
  | cons c s ih =>
    simp only [List.cons_append, dec] at h ⊢
    by_cases h1 : c ≤ 1
    · rw [if_pos h1] at h ⊢; exact ih h
    · rw [if_neg h1] at h; cases h
theorem dec_cons_append (s st : List Nat) (h : dec s ≠ []) : dec (s ++ st) = dec s ++ st := by
  induction s with
  | nil => exact absurd rfl h
  | cons c s ih =>
    simp only [List.cons_append, dec] at h ⊢
    by_cases h1 : c ≤ 1
    · rw [if_pos h1] at h ⊢; rw [if_pos h1]; exact ih h
    · rw [if_neg h1]; rw [if_neg h1]; rfl
theorem mach_shift : ∀ (f : List α) (s st : List Nat) (r : List α) (most : Nat), (∀ c ∈ s, 1 ≤ c) → endW kd f (need s) = some f.length →
    mach kd (f ++ r) (s ++ st) most = fin kd st r (max most (st.length + mach kd f s 0)) := by
  intro f
  induction f with
  | nil =>
    intro s st r most hs h
    have := need_pos s
    obtain ⟨n, hn⟩ : ∃ n, need s = n + 1 := ⟨need s - 1, by omega⟩
    rw [hn] at h
    cases h
  | cons x f ih =>
    intro s st r most hs h
    have hp := need_pos s
    obtain ⟨n, hn⟩ : ∃ n, need s = n + 1 := ⟨need s - 1, by omega⟩
    rw [hn] at h
    simp only [endW] at h
    by_cases hx : kd x < 0
    · rw [if_pos hx] at h; cases h
    rw [if_neg hx] at h
    obtain ⟨j, hj, hj2⟩ := Option.map_eq_some_iff.1 h
    rw [List.length_cons] at hj2
    obtain rfl : j = f.length := by omega
    rw [List.cons_append]
    by_cases h0 : (kd x).toNat = 0
    · rw [mach_cons0 kd _ _ _ _ h0, mach_cons0 kd _ _ _ _ h0]
      rw [h0, Nat.add_zero] at hj
      unfold fin
      have hd := dec_need s hs
      by_cases hd0 : dec s = []
      · rw [dec_nil_append s st hd0, hd0]
        have := hd.1 hd0
        obtain rfl : n = 0 := by omega
        rw [endW_zero] at hj
        injection hj with hj
        obtain rfl : f = [] := List.length_eq_zero_iff.1 hj.symm
        rw [List.nil_append, List.length_append]
        simp only []
        have e : max most (s.length + st.length + 1) = max most (st.length + max 0 (s.length + 1)) := by omega
        rw [e]
      · rw [dec_cons_append s st hd0]
        have hn2 := hd.2.1 hd0
        obtain ⟨t, s', hts⟩ : ∃ t s', dec s = t :: s' := by
          cases hds : dec s with
          | nil => exact absurd hds hd0
          | cons t s' => exact ⟨t, s', rfl⟩
        have := ih (dec s) st r (max most ((s ++ st).length + 1)) hd.2.2 (by rw [hn2, hn]; simpa using hj)
        rw [hts] at this ⊢
        simp only [List.cons_append] at this ⊢
        rw [this, List.length_append, mach_max kd f (t :: s') (max 0 (s.length + 1))]
        unfold fin
        have e : max (max most (s.length + st.length + 1)) (st.length + mach kd f (t :: s') 0) = max most (st.length + max (max 0 (s.length + 1)) (mach kd f (t :: s') 0)) := by omega
        rw [e]
    · rw [mach_consS kd _ _ _ _ h0, mach_consS kd _ _ _ _ h0]
      have := ih ((kd x).toNat :: s) st r (max most ((s ++ st).length + 1)) (by
        intro c hc
        rcases List.mem_cons.1 hc with e | e
        · omega
        · exact hs c e) (by
        simp only [need]
        rw [hn, show (kd x).toNat - 1 + (n + 1) = n + (kd x).toNat by omega]
        exact hj)
      rw [List.cons_append] at this
      rw [this, List.length_append, mach_max kd f ((kd x).toNat :: s) (max 0 (s.length + 1))]
      have e : max (max most (s.length + st.length + 1)) (st.length + mach kd f ((kd x).toNat :: s) 0) = max most (st.length + max (max 0 (s.length + 1)) (mach kd f ((kd x).toNat :: s) 0)) := by omega
      rw [e]
def depL (l : List α) : Nat := match endW kd l 1 with | none => 0 | some _ => mach kd l [] 0
end
end Go.Proofs.Ytdelccahgchadaa
end
section
namespace Go.Proofs.Ytdelccahgchadaa
open Go.RowKit Go.Lib Go.Proofs.Ytdelccahgchadaa.P Go.Proofs.YtdelccahgchadaaW.PrintWords Go.Proofs.YtdelccahgchadaaW.PrintMore
set_option linter.unusedVariables false
abbrev Nd := S25
def kdB (f0 : Int) (v : ByteArray) : Int :=
  let b : Int := if v.toList = ([123] : List UInt8) then 1 else 0
  if f0 = 1 ∨ f0 = 2 then 0 else if f0 = 3 then 1 + b else if f0 = 4 then 2 + b else if f0 = 5 ∨ f0 = 7 then 1 else if f0 = 6 ∨ f0 = 8 then 2 else -1
def kdT (x : Nd) : Int := kdB x.f0 x.f1
theorem kdB_bounds (f0 : Int) (v : ByteArray) : -1 ≤ kdB f0 v ∧ kdB f0 v ≤ 3 := by
  unfold kdB
  simp only []
  split <;> (try split) <;> (try split) <;> (try split) <;> (try split) <;> (try split) <;> omega
theorem Kids_eq (f0 : Int) (v a n : ByteArray) (l : List ByteArray) (k : Nat) (hk : 3 ≤ k) : tree_Kids.f k f0 v a n l = some (kdB f0 v) := by
  obtain ⟨k, rfl⟩ : ∃ j, k = j + 3 := ⟨k - 3, by omega⟩
  have h0 : ∀ b : Int, b = 0 ∨ b = 1 → tree_Kids.j0 (k + 3) b f0 v a n l = some (if f0 = 1 ∨ f0 = 2 then 0 else if f0 = 3 then 1 + b else if f0 = 4 then 2 + b else if f0 = 5 ∨ f0 = 7 then 1 else if f0 = 6 ∨ f0 = 8 then 2 else -1) := by
    intro b hb
    have w1 : wrap64 (1 + b) = 1 + b := wrap_id (by omega) (by omega)
    have w2 : wrap64 (2 + b) = 2 + b := wrap_id (by omega) (by omega)
    simp only [tree_Kids.j0, tree_Kids.j1, tree_Kids.j2, w1, w2]
    by_cases h1 : f0 = 1
    · subst h1; simp
    by_cases h2 : f0 = 2
    · subst h2; simp
    by_cases h3 : f0 = 3
    · subst h3; simp
    by_cases h4 : f0 = 4
    · subst h4; simp
    by_cases h5 : f0 = 5
    · subst h5; simp
    by_cases h6 : f0 = 6
    · subst h6; simp
    by_cases h7 : f0 = 7
    · subst h7; simp
    by_cases h8 : f0 = 8
    · subst h8; simp
    simp [h1, h2, h3, h4, h5, h6, h7, h8]
  unfold tree_Kids.f kdB
  by_cases hv : v.toList = ([123] : List UInt8)
  · rw [if_pos hv, if_pos hv]; exact h0 1 (.inr rfl)
  · rw [if_neg hv, if_neg hv]; exact h0 0 (.inl rfl)
theorem rd_drop (l : List Nd) (i : Nat) (x : Nd) (r : List Nd) (h : l.drop i = x :: r) : rd_T25 l (i : Int) = x ∧ i < l.length ∧ l.drop (i + 1) = r := by
  have hi : i < l.length := by
    have := congrArg List.length h
    rw [List.length_drop, List.length_cons] at this
    omega
  have hd := List.drop_eq_getElem_cons hi
  rw [h] at hd
  injection hd with h1 h2
  refine ⟨?_, hi, h2.symm⟩
  unfold rd_T25
  rw [Int.toNat_natCast, List.getD_eq_getElem?_getD, List.getElem?_eq_getElem hi]
  exact h1.symm
def outE (i : Nat) : Option Nat → Int × Bool
  | none => (0, false)
  | some m => (((i + m : Nat) : Int), true)
theorem End_l0 (l0 : List Nd) (hl : l0.length ≤ 1000000) : ∀ (l : List Nd) (i n k : Nat), l0.drop i = l → n ≤ 3 * i + 1 → i ≤ l0.length → l.length + 5 ≤ k →
    tree_End.l0 k l0 (i : Int) (n : Int) = some (outE i (endW kdT l n)) := by
  intro l
  induction l with
  | nil =>
    intro i n k hd hn hi hk
    obtain ⟨k, rfl⟩ : ∃ j, k = j + 1 := ⟨k - 1, by rw [List.length_nil] at hk; omega⟩
    simp only [tree_End.l0]
    cases n with
    | zero => rw [if_neg (by omega), endW_zero]; rfl
    | succ n =>
      have : l0.length ≤ i := by
        have := congrArg List.length hd
        rw [List.length_drop, List.length_nil] at this
        omega
      rw [if_pos (by omega), if_neg (by omega), if_pos (by omega)]
      rfl
  | cons x l ih =>
    intro i n k hd hn hi hk
    rw [List.length_cons] at hk
    obtain ⟨k, rfl⟩ : ∃ j, k = j + 1 := ⟨k - 1, by omega⟩
    obtain ⟨hr, hlt, hd2⟩ := rd_drop l0 i x l hd
    simp only [tree_End.l0]
    cases n with
    | zero => rw [if_neg (by omega), endW_zero]; rfl
    | succ n =>
      rw [if_pos (by omega), if_neg (by omega), if_neg (by omega), if_pos (by omega), if_pos (by omega), hr, Kids_eq _ _ _ _ _ k (by omega)]
      simp only [Option.bind_some, endW]
      have hb := kdB_bounds x.f0 x.f1
      have hk1 : kdT x = kdB x.f0 x.f1 := rfl
      by_cases h : kdB x.f0 x.f1 < 0
      · rw [if_pos h, hk1, if_pos h]; rfl
      · rw [if_neg h, hk1, if_neg h]
        have w1 : wrap64 ((i : Int) + 1) = ((i + 1 : Nat) : Int) := by rw [wrap_id (by omega) (by omega)]; omega
        have w2 : wrap64 (((n + 1 : Nat) : Int) + kdB x.f0 x.f1) = ((n + 1 : Nat) : Int) + kdB x.f0 x.f1 := wrap_id (by omega) (by omega)
        have w3 : wrap64 (((n + 1 : Nat) : Int) + kdB x.f0 x.f1 - 1) = ((n + (kdB x.f0 x.f1).toNat : Nat) : Int) := by rw [wrap_id (by omega) (by omega)]; omega
        rw [w1, w2, w3]
        clear w1 w2 w3
        rw [ih (i + 1) (n + (kdB x.f0 x.f1).toNat) k hd2 (by omega) (by omega) (by omega)]
        cases endW kdT l (n + (kdB x.f0 x.f1).toNat) with
        | none => rfl
        | some m => simp only [outE, Option.map_some]; congr 2; omega
theorem End_eq (l0 : List Nd) (hl : l0.length ≤ 1000000) (i : Nat) (hi : i ≤ l0.length) (k : Nat) (hk : l0.length + 5 ≤ k) : tree_End.f k l0 (i : Int) = some (outE i (endW kdT (l0.drop i) 1)) := by
  unfold tree_End.f
  exact End_l0 l0 hl (l0.drop i) i 1 k rfl (by omega) hi (by rw [List.length_drop]; omega)
def encS : List Nat → List Int
  | [] => []
  | c :: st => encS st ++ [(c : Int)]
theorem encS_len (st : List Nat) : (encS st).length = st.length := by
  induction st with
  | nil => rfl
  | cons c st ih => simp [encS, ih]
theorem rd_last (l : List Int) (c : Int) : rd (l ++ [c]) (l.length : Int) = c := by
  simp [rd]
theorem mx_nat (a b : Nat) : mx (a : Int) (b : Int) = ((max a b : Nat) : Int) := by
  unfold mx
  split <;> omega
theorem dec_len (st : List Nat) : (dec st).length ≤ st.length := by
  induction st with
  | nil => exact Nat.le_refl _
  | cons c st ih => simp only [dec]; split <;> simp only [List.length_cons] <;> omega
theorem dec_le3 (st : List Nat) (h : ∀ c ∈ st, 1 ≤ c ∧ c ≤ 3) : ∀ c ∈ dec st, 1 ≤ c ∧ c ≤ 3 := by
  induction st with
  | nil => intro c hc; cases hc
  | cons c st ih =>
    have hc := h c List.mem_cons_self
    simp only [dec]
    split
    · exact ih fun d hd => h d (List.mem_cons_of_mem _ hd)
    · intro d hd
      rcases List.mem_cons.1 hd with e | e
      · omega
      · exact h d (List.mem_cons_of_mem _ e)
theorem Depth_open (l0 : List Nd) (i most c : Nat) (st : List Nat) (k : Nat) (hc : 1 ≤ c) (hl : st.length ≤ 1000000) :
    tree_Depth.l1 (k + 2) (most : Int) (encS (c :: st)) l0 (l0.length : Int) (i : Int) = tree_Depth.l0 k (most : Int) (encS (c :: st)) l0 (l0.length : Int) (wrap64 ((i : Int) + 1)) := by
  have len2 : (encS (c :: st)).length = st.length + 1 := by rw [encS_len]; rfl
  have hw2 : wrap64 (((st.length + 1 : Nat) : Int) - 1) = (st.length : Int) := by rw [wrap_id (by omega) (by omega)]; omega
  have hr2 : rd (encS (c :: st)) (st.length : Int) = (c : Int) := by
    have := rd_last (encS st) (c : Int)
    rw [encS_len] at this
    exact this
  simp only [tree_Depth.l1, tree_Depth.j2, len2, hw2, hr2]
  clear hw2
  have hb : ((c : Int) == 0) = false := by simp; omega
  rw [if_pos (by omega), if_pos (by omega), if_pos (by omega), hb, if_neg (by decide), if_neg (by omega)]
theorem Depth_done (l0 : List Nd) (i most : Nat) : ∀ (st : List Nat) (k : Nat), (∀ c ∈ st, 1 ≤ c ∧ c ≤ 3) → st.length ≤ 1000000 → 2 * st.length + 4 ≤ k →
    ∃ k', k ≤ k' + 2 * (st.length + 1 - (dec st).length) + 2 ∧ tree_Depth.l1 k (most : Int) (encS (0 :: st)) l0 (l0.length : Int) (i : Int) = (match dec st with | [] => some (most : Int) | s :: st' => tree_Depth.l0 k' (most : Int) (encS (s :: st')) l0 (l0.length : Int) (wrap64 ((i : Int) + 1))) := by
  intro st
  induction st with
  | nil =>
    intro k _ _ hk
    obtain ⟨k, rfl⟩ : ∃ j, k = j + 4 := ⟨k - 4, by omega⟩
    refine ⟨k, by simp only [dec, List.length_nil]; omega, ?_⟩
    simp [tree_Depth.l1, tree_Depth.j2, encS, dec, rd, wrap64]
  | cons c st ih =>
    intro k hs hl hk
    rw [List.length_cons] at hl hk
    obtain ⟨k, rfl⟩ : ∃ j, k = j + 2 := ⟨k - 2, by omega⟩
    have hc := hs c List.mem_cons_self
    have e1 : encS (0 :: c :: st) = encS (c :: st) ++ [(0 : Int)] := rfl
    have len1 : (encS (0 :: c :: st)).length = st.length + 2 := by rw [encS_len]; rfl
    have hw : wrap64 (((st.length + 2 : Nat) : Int) - 1) = ((st.length + 1 : Nat) : Int) := by rw [wrap_id (by omega) (by omega)]; omega
    have hr : rd (encS (0 :: c :: st)) ((st.length + 1 : Nat) : Int) = 0 := by
      have := rd_last (encS (c :: st)) 0
      rw [encS_len, List.length_cons] at this
      exact this
    have ht : (encS (0 :: c :: st)).take (((st.length + 1 : Nat) : Int)).toNat = encS (c :: st) := by
      rw [Int.toNat_natCast, e1, List.take_append_of_le_length (by rw [encS_len, List.length_cons]; omega), List.take_of_length_le (by rw [encS_len, List.length_cons]; omega)]
    have len2 : (encS (c :: st)).length = st.length + 1 := by rw [encS_len]; rfl
    have hw2 : wrap64 (((st.length + 1 : Nat) : Int) - 1) = (st.length : Int) := by rw [wrap_id (by omega) (by omega)]; omega
    have hr2 : rd (encS (c :: st)) (st.length : Int) = (c : Int) := by
      have := rd_last (encS st) (c : Int)
      rw [encS_len] at this
      exact this
    have hw3 : wrap64 ((c : Int) - 1) = ((c - 1 : Nat) : Int) := by rw [wrap_id (by omega) (by omega)]; omega
    have hset : (encS (c :: st)).set ((st.length : Int)).toNat ((c - 1 : Nat) : Int) = encS ((c - 1) :: st) := by
      rw [Int.toNat_natCast]
      simp only [encS]
      rw [List.set_append_right _ _ (by rw [encS_len]; omega), encS_len, Nat.sub_self]
      rfl
    have step : tree_Depth.l1 (k + 2) (most : Int) (encS (0 :: c :: st)) l0 (l0.length : Int) (i : Int) = tree_Depth.l1 k (most : Int) (encS ((c - 1) :: st)) l0 (l0.length : Int) (i : Int) := by
      rw [tree_Depth.l1, len1, hw, hr, tree_Depth.j2, len1, hw, ht]
      simp only [Option.bind_some]
      rw [len2, hw2, hr2, hw3, hset]
      clear hw hw2 hw3
      rw [if_pos (by omega), if_pos (by omega), if_pos (by omega), if_pos (by rfl), if_pos (by omega), if_pos (by omega), if_pos (by omega), if_pos (by omega), if_pos (by omega)]
    rw [step]
    clear hw hw2 hw3
    simp only [dec]
    by_cases h1 : c ≤ 1
    · rw [if_pos h1]
      have e : c - 1 = 0 := by omega
      rw [e]
      obtain ⟨k', hk', he⟩ := ih k (fun d hd => hs d (List.mem_cons_of_mem _ hd)) (by omega) (by omega)
      have hdl := dec_len st
      exact ⟨k', by rw [List.length_cons]; omega, he⟩
    · rw [if_neg h1]
      obtain ⟨k, rfl⟩ : ∃ j, k = j + 2 := ⟨k - 2, by omega⟩
      exact ⟨k, by simp only [List.length_cons]; omega, Depth_open l0 i most (c - 1) st k (by omega) (by omega)⟩
theorem Depth_l0 (l0 : List Nd) (hl : l0.length ≤ 1000000) : ∀ (l : List Nd) (i most k : Nat) (st : List Nat), l0.drop i = l → i ≤ l0.length → (∀ c ∈ st, 1 ≤ c ∧ c ≤ 3) → st.length ≤ i → (endW kdT l (need st)).isSome = true → 5 * l.length + 2 * st.length + 8 ≤ k →
    tree_Depth.l0 k (most : Int) (encS st) l0 (l0.length : Int) (i : Int) = some ((mach kdT l st most : Nat) : Int) := by
  intro l
  induction l with
  | nil =>
    intro i most k st hd hi hs hsl he hk
    have := need_pos st
    obtain ⟨n, hn⟩ : ∃ n, need st = n + 1 := ⟨need st - 1, by omega⟩
    rw [hn] at he
    cases he
  | cons x l ih =>
    intro i most k st hd hi hs hsl he hk
    rw [List.length_cons] at hk
    obtain ⟨k, rfl⟩ : ∃ j, k = j + 1 := ⟨k - 1, by omega⟩
    obtain ⟨hr, hlt, hd2⟩ := rd_drop l0 i x l hd
    have hp := need_pos st
    obtain ⟨n, hn⟩ : ∃ n, need st = n + 1 := ⟨need st - 1, by omega⟩
    have hb := kdB_bounds x.f0 x.f1
    have hk1 : kdT x = kdB x.f0 x.f1 := rfl
    rw [hn] at he
    simp only [endW] at he
    by_cases hx : kdT x < 0
    · rw [if_pos hx] at he; cases he
    rw [if_neg hx] at he
    have he2 : (endW kdT l (n + (kdT x).toNat)).isSome = true := by
      cases h : endW kdT l (n + (kdT x).toNat) with
      | none => rw [h] at he; cases he
      | some m => rfl
    obtain ⟨c, hc⟩ : ∃ c, (kdT x).toNat = c := ⟨_, rfl⟩
    have hkc : kdB x.f0 x.f1 = (c : Int) := by omega
    have henc : encS st ++ [(c : Int)] = encS (c :: st) := rfl
    have hlen : (encS (c :: st)).length = st.length + 1 := by rw [encS_len]; rfl
    have hlim : (encS st).length < 17592186044416 := Nat.lt_of_le_of_lt (by rw [encS_len]; omega : (encS st).length ≤ 1000000) (by decide)
    simp only [tree_Depth.l0]
    rw [if_pos (by omega), if_pos (by omega), if_pos (by omega), hr, Kids_eq _ _ _ _ _ k (by omega), hkc]
    simp only [Option.bind_some]
    rw [if_pos hlim, henc, hlen, mx_nat]
    clear hlim
    by_cases h0 : c = 0
    · subst h0
      obtain ⟨k', hk', e⟩ := Depth_done l0 i (max most (st.length + 1)) st k hs (by omega) (by omega)
      have w1 : wrap64 ((i : Int) + 1) = ((i + 1 : Nat) : Int) := by rw [wrap_id (by omega) (by omega)]; omega
      rw [e, w1, mach_cons0 kdT x l st most hc]
      clear w1 e
      unfold fin
      have hdl := dec_len st
      have hdn := dec_need st (fun d hd => (hs d hd).1)
      cases hds : dec st with
      | nil => rfl
      | cons s st' =>
        simp only []
        have h3 := dec_le3 st hs
        rw [hds] at h3 hdl hdn hk'
        have hne := hdn.2.1 (by simp)
        simp only [List.length_cons] at hdl hk'
        exact ih (i + 1) (max most (st.length + 1)) k' (s :: st') hd2 (by omega) h3 (by rw [List.length_cons]; omega) (by rw [hne, hn]; rw [hc] at he2; simpa using he2) (by rw [List.length_cons]; omega)
    · obtain ⟨k, rfl⟩ : ∃ j, k = j + 2 := ⟨k - 2, by omega⟩
      have hdo := Depth_open l0 i (max most (st.length + 1)) c st k (by omega) (by omega)
      have hms := mach_consS kdT x l st most (by omega)
      have w1 : wrap64 ((i : Int) + 1) = ((i + 1 : Nat) : Int) := by rw [wrap_id (by omega) (by omega)]; omega
      rw [hdo, w1, hms, hc]
      clear w1 hdo hms
      exact ih (i + 1) _ k (c :: st) hd2 (by omega) (by
        intro d hd
        rcases List.mem_cons.1 hd with e | e
        · omega
        · exact hs d e) (by rw [List.length_cons]; omega) (by
        simp only [need]
        rw [hn, show c - 1 + (n + 1) = n + c by omega, ← hc]
        exact he2) (by rw [List.length_cons]; omega)
theorem Depth_eq (l0 : List Nd) (hl : l0.length ≤ 1000000) (k : Nat) (hk : 5 * l0.length + 10 ≤ k) : tree_Depth.f k l0 = some ((depL kdT l0 : Nat) : Int) := by
  unfold tree_Depth.f depL
  have e0 : (0 : Int) = ((0 : Nat) : Int) := rfl
  have := End_eq l0 hl 0 (by omega) k (by omega)
  rw [List.drop_zero, ← e0] at this
  rw [this]
  simp only [Option.bind_some]
  cases h : endW kdT l0 1 with
  | none => simp [outE]
  | some m =>
    simp only [outE]
    rw [if_pos trivial]
    exact Depth_l0 l0 hl l0 0 0 k [] rfl (by omega) (fun c hc => by cases hc) (by simp) (by simp only [need]; rw [h]; rfl) (by rw [List.length_nil]; omega)
end Go.Proofs.Ytdelccahgchadaa
end
section
namespace Go.Proofs.Ytdelccahgchadaa
open Go.RowKit Go.Lib Go.Proofs.Ytdelccahgchadaa.P Go.Proofs.YtdelccahgchadaaW.PrintWords Go.Proofs.YtdelccahgchadaaW.PrintMore
set_option linter.unusedVariables false
abbrev Bs := List UInt8
abbrev L (s : ByteArray) : Bs := s.data.toList
theorem L_size (s : ByteArray) : s.size = (L s).length := by simp
theorem L_append (a b : ByteArray) : L (a ++ b) = L a ++ L b := by simp
theorem L_ext {a b : ByteArray} (h : L a = L b) : a = b := by
  cases a; cases b; congr 1; exact Array.toList_inj.1 h
theorem L_mk (l : Bs) : L ⟨l.toArray⟩ = l := rfl
theorem L_extract (s : ByteArray) (a b : Nat) : L (s.extract a b) = ((L s).drop a).take (b - a) := Lib.extract_data s a b
theorem L_end (s : ByteArray) (a : Nat) : L (s.extract a s.size) = (L s).drop a := Lib.extract_to_end s a
theorem L_bt (s : ByteArray) (i : Nat) (h : i < (L s).length) : bt s (i : Int) = ((L s)[i].toNat : Int) := by
  unfold bt
  rw [dif_pos (by simpa using h)]
  rfl
theorem toList_L (s : ByteArray) : s.toList = L s := Go.ByteArray.toList_eq s
def trimC (c : UInt8) : Bs → Bs
  | [] => []
  | x :: l => if x = c then l else x :: l
theorem trimC_eq (c : UInt8) (l : Bs) : Lib.trimPrefix l [c] = trimC c l := by
  unfold Lib.trimPrefix Lib.hasPrefix
  cases l with
  | nil => rfl
  | cons x l =>
    by_cases h : x = c
    · subst h; simp [trimC]
    · have h2 : ¬ c = x := fun h2 => h h2.symm
      simp [trimC, h, h2]
def runL (p : Int → Bool) (l : Bs) : Nat := (l.takeWhile fun c => p (c.toNat : Int)).length
theorem runN_eq (p : Int → Bool) (s : ByteArray) : Ytdelccahgchadaa.P.runN p s = runL p (L s) := rfl
theorem runL_le (p : Int → Bool) (l : Bs) : runL p l ≤ l.length := by
  unfold runL
  exact List.Sublist.length_le (List.takeWhile_sublist _)
theorem runL_cons (p : Int → Bool) (c : UInt8) (l : Bs) : runL p (c :: l) = if p (c.toNat : Int) = true then runL p l + 1 else 0 := by
  unfold runL
  rw [List.takeWhile_cons]
  split <;> simp
theorem runL_all (p : Int → Bool) (l : Bs) : runL p l = l.length ↔ l.all (fun c => p (c.toNat : Int)) = true := by
  induction l with
  | nil => simp [runL]
  | cons x l ih =>
    rw [runL_cons, List.all_cons]
    by_cases hp : p (x.toNat : Int) = true
    · rw [if_pos hp, hp, Bool.true_and, ← ih, List.length_cons]; omega
    · rw [if_neg hp]
      have : p (x.toNat : Int) = false := by simpa using hp
      rw [this, Bool.false_and, List.length_cons]
      constructor
      · intro h; omega
      · intro h; cases h
def figs (l : Bs) : Bool := l.all isFig
theorem isFig_isD (c : UInt8) : isFig c = isD (c.toNat : Int) := by
  unfold isFig isD
  rw [Bool.eq_iff_iff]
  simp
  omega
theorem figs_run (l : Bs) : figs l = true ↔ runL isD l = l.length := by
  rw [runL_all]
  unfold figs
  have : isFig = fun c : UInt8 => isD (c.toNat : Int) := funext isFig_isD
  rw [this]
def mayB (l : Bs) : Bool :=
  let f := trimC 45 l
  decide (1 ≤ f.length) && decide (f.length ≤ 100) && (!(f.head? == some 48) || l == [48]) && figs f
def numberL (l : Bs) : Option Bs :=
  let f := trimC 95 l
  let n := if f = l then f else 45 :: f
  if figs f && mayB n then some n else none
def signsL : Bs := [43, 45, 42, 37, 33, 38, 124, 60, 62, 61, 126, 44, 35, 94, 36, 63, 64]
def advsL : Bs := [39, 47, 92, 46, 96]
def marksL : Bs := [40, 41, 91, 93, 123, 125, 58]
def firstL (l : Bs) : Nat × Nat :=
  match l with
  | [] => (0, 0)
  | c :: _ =>
    if isLow (c.toNat : Int) = true then (2, runL isWordC l)
    else if isUp (c.toNat : Int) = true then (3, runL isVerbC l)
    else if signsL.contains c then (4, 1)
    else if advsL.contains c then (5, 1)
    else if marksL.contains c then (6, 1)
    else let f := trimC 95 l
      let n := l.length - f.length + runL isD f
      if (numberL (l.take n)).isSome then (1, n) else (0, 0)
structure Tk where
  kind : Nat
  text : Bs
  pos : Nat
deriving DecidableEq
def lexF : Nat → Nat → Bs → Nat ⊕ List Tk
  | 0, p, _ => .inl p
  | _ + 1, _, [] => .inr []
  | f + 1, p, c :: l =>
    if c = 32 then lexF f (p + 1) l
    else
      let k := (firstL (c :: l)).1
      let n := (firstL (c :: l)).2
      if k = 0 then .inl p
      else match lexF f (p + n) ((c :: l).drop n) with
        | .inl e => .inl e
        | .inr ts => .inr (⟨k, (c :: l).take n, p⟩ :: ts)
theorem trimC_len (c : UInt8) (l : Bs) : (trimC c l).length ≤ l.length ∧ l.length ≤ (trimC c l).length + 1 := by
  cases l with
  | nil => simp [trimC]
  | cons x l =>
    by_cases h : x = c
    · simp [trimC, h]
    · simp [trimC, h]
theorem runL_pos (p : Int → Bool) (c : UInt8) (l : Bs) (h : p (c.toNat : Int) = true) : 1 ≤ runL p (c :: l) := by
  rw [runL_cons, if_pos h]; omega
theorem low_word {c : Int} (h : isLow c = true) : isWordC c = true := by unfold isWordC; rw [h]; rfl
theorem up_verb {c : Int} (h : isUp c = true) : isVerbC c = true := by unfold isVerbC; rw [h]; simp
theorem numberL_take_pos {l : Bs} {n : Nat} (h : (numberL (l.take n)).isSome = true) : 1 ≤ n := by
  cases n with
  | zero => rw [List.take_zero] at h; revert h; decide
  | succ n => omega
theorem firstL_bounds (c : UInt8) (l : Bs) (h : (firstL (c :: l)).1 ≠ 0) : 1 ≤ (firstL (c :: l)).2 ∧ (firstL (c :: l)).2 ≤ (c :: l).length ∧ (firstL (c :: l)).1 ≤ 6 := by
  unfold firstL at h ⊢
  simp only [] at h ⊢
  by_cases h1 : isLow (c.toNat : Int) = true
  · rw [if_pos h1]; exact ⟨runL_pos _ _ _ (low_word h1), runL_le _ _, by simp⟩
  · rw [if_neg h1] at h ⊢
    by_cases h2 : isUp (c.toNat : Int) = true
    · rw [if_pos h2]; exact ⟨runL_pos _ _ _ (up_verb h2), runL_le _ _, by simp⟩
    · rw [if_neg h2] at h ⊢
      by_cases h3 : signsL.contains c = true
      · rw [if_pos h3]; simp
      · rw [if_neg h3] at h ⊢
        by_cases h4 : advsL.contains c = true
        · rw [if_pos h4]; simp
        · rw [if_neg h4] at h ⊢
          by_cases h5 : marksL.contains c = true
          · rw [if_pos h5]; simp
          · rw [if_neg h5] at h ⊢
            by_cases h6 : (numberL ((c :: l).take ((c :: l).length - (trimC 95 (c :: l)).length + runL isD (trimC 95 (c :: l))))).isSome = true
            · rw [if_pos h6]
              have a := trimC_len 95 (c :: l)
              have b := runL_le isD (trimC 95 (c :: l))
              exact ⟨numberL_take_pos h6, by simp only []; omega, by simp⟩
            · rw [if_neg h6] at h; exact absurd rfl h
end Go.Proofs.Ytdelccahgchadaa
end
section
namespace Go.Proofs.Ytdelccahgchadaa
open Go.RowKit Go.Lib Go.Proofs.Ytdelccahgchadaa.P Go.Proofs.YtdelccahgchadaaW.PrintWords Go.Proofs.YtdelccahgchadaaW.PrintMore
set_option linter.unusedVariables false
deriving instance DecidableEq for Sum
def lexL (l : Bs) : Nat ⊕ List Tk := lexF (l.length + 1) 0 l
end Go.Proofs.Ytdelccahgchadaa
end
section
namespace Go.Proofs.Ytdelccahgchadaa
open Go.RowKit Go.Lib Go.Proofs.Ytdelccahgchadaa.P Go.Proofs.YtdelccahgchadaaW.PrintWords Go.Proofs.YtdelccahgchadaaW.PrintMore
set_option linter.unusedVariables false
abbrev mkB (l : Bs) : ByteArray := ⟨l.toArray⟩
theorem mkB_L (s : ByteArray) : mkB (L s) = s := L_ext rfl
theorem trimP (s : ByteArray) (c : UInt8) : strings_TrimPrefix.f s ⟨#[c]⟩ = some (mkB (trimC c (L s))) := by
  unfold strings_TrimPrefix.f
  have : (⟨#[c]⟩ : ByteArray).data.toList = [c] := rfl
  rw [this, trimC_eq]
theorem mkB_size (l : Bs) : (mkB l).size = l.length := by simp [ByteArray.size]
theorem bt_head (c : UInt8) (l : Bs) : bt (mkB (c :: l)) 0 = (c.toNat : Int) := by
  have := L_bt (mkB (c :: l)) 0 (by simp)
  exact this
theorem allFig_L (s : ByteArray) : allFig s = figs (L s) := rfl
theorem byte_iff (c d : UInt8) : ((c.toNat : Int) = (d.toNat : Int)) ↔ c = d := by
  constructor
  · intro h; exact UInt8.toNat_inj.1 (by omega)
  · rintro rfl; rfl
theorem May_eq (s : ByteArray) : num_May.f s = some (mayB (L s)) := by
  unfold num_May.f mayB
  rw [trimP]
  simp only [Option.bind_some, mkB_size]
  obtain ⟨f, hf⟩ : ∃ f, trimC 45 (L s) = f := ⟨_, rfl⟩
  rw [hf]
  cases f with
  | nil => simp
  | cons c f =>
    rw [if_neg (by rw [List.length_cons]; omega)]
    by_cases h : (c :: f).length ≤ 100
    · rw [if_neg (by omega), if_pos (by rw [List.length_cons]; omega), bt_head]
      unfold ContainsFunc_May.f
      rw [allFig_L, L_mk]
      have e1 : decide (1 ≤ (c :: f).length) = true := by simp
      have e2 : decide ((c :: f).length ≤ 100) = true := by simpa using h
      rw [e1, e2]
      by_cases hc : c = 48
      · subst hc
        rw [if_pos (by decide), toList_L]
        by_cases h0 : L s = [48]
        · rw [if_pos h0, h0]; simp
        · rw [if_neg h0]
          have : (L s == [48]) = false := by simpa using h0
          rw [this]; simp
      · have hne : ¬ ((c.toNat : Int) = 48) := fun h' => hc ((byte_iff c 48).1 h')
        rw [if_neg hne]
        have : ((c :: f).head? == some 48) = false := by simpa using hc
        rw [this]; simp
    · rw [if_pos (by omega)]
      have e2 : decide ((c :: f).length ≤ 100) = false := by simpa using h
      rw [e2]; simp
def outN (o : Option Bs) : ByteArray × Bool := match o with | some n => (mkB n, true) | none => (⟨#[]⟩, false)
theorem number_eq (s : ByteArray) (hs : s.size ≤ 140737488351232) (k : Nat) (hk : 1 ≤ k) : lex_Number.f k s = some (outN (numberL (L s))) := by
  obtain ⟨k, rfl⟩ : ∃ j, k = j + 1 := ⟨k - 1, by omega⟩
  unfold lex_Number.f numberL
  rw [trimP]
  simp only [Option.bind_some, mkB_size, toList_L, L_mk]
  obtain ⟨f, hf⟩ : ∃ f, trimC 95 (L s) = f := ⟨_, rfl⟩
  have hl := trimC_len 95 (L s)
  rw [← L_size] at hl
  rw [hf] at hl ⊢
  have hj : ∀ n : Bs, lex_Number.j0 (k + 1) (mkB f) (mkB n) = some (outN (if figs f && mayB n then some n else none)) := by
    intro n
    simp only [lex_Number.j0, run_figure.f, runO, May_eq, L_mk, mkB_size]
    rw [if_pos (by omega), runN_eq, L_mk]
    simp only [Option.bind_some]
    by_cases h : figs f = true
    · rw [h, if_pos (by rw [(figs_run f).1 h])]
      cases mayB n with
      | true => rfl
      | false => rfl
    · rw [if_neg (fun h' => h ((figs_run f).2 (by omega)))]
      have : figs f = false := by simpa using h
      rw [this]; rfl
  by_cases h : f = L s
  · rw [if_pos h, if_pos h, hj]
  · rw [if_neg h, if_neg h, if_pos (by omega)]
    have e : (⟨#[45]⟩ : ByteArray) ++ mkB f = mkB (45 :: f) := L_ext (by rw [L_append]; rfl)
    rw [e, hj]
theorem indexB_iff (l : Bs) (c : UInt8) : ∃ t, strings_IndexByte.f (mkB l) (c.toNat : Int) = some t ∧ (t ≥ 0 ↔ l.contains c = true) := by
  refine ⟨_, rfl, ?_⟩
  have e : ((c.toNat : Int).toNat.toUInt8) = c := Lib.byte_back' c
  have e2 : (mkB l).data.toList = l := rfl
  rw [e, e2, Lib.contains_iff_indexByte]
  simp
theorem first_eq (s : ByteArray) (h0 : 0 < s.size) (hs : s.size ≤ 256) (k : Nat) (hk : 1 ≤ k) : lex_first.f k s = some (((firstL (L s)).1 : Int), ((firstL (L s)).2 : Int)) := by
  obtain ⟨l, hl⟩ : ∃ l, L s = l := ⟨_, rfl⟩
  obtain rfl : s = mkB l := by rw [← hl, mkB_L]
  clear hl
  rw [mkB_size] at h0 hs
  cases l with
  | nil => simp at h0
  | cons c l =>
    unfold lex_first.f firstL
    simp only [L_mk]
    rw [if_pos (by rw [mkB_size]; omega), bt_head]
    have hS : lex_small.f (c.toNat : Int) = some (isLow (c.toNat : Int)) := by
      unfold lex_small.f isLow
      by_cases h : (c.toNat : Int) ≥ 97
      · rw [if_pos h]; congr 1; rw [Bool.eq_iff_iff, decide_eq_true_iff, decide_eq_true_iff]; omega
      · rw [if_neg h]; congr 1; rw [Bool.eq_iff_iff, decide_eq_true_iff]; simp; omega
    have hG : lex_great.f (c.toNat : Int) = some (isUp (c.toNat : Int)) := by
      unfold lex_great.f isUp
      by_cases h : (c.toNat : Int) ≥ 65
      · rw [if_pos h]; congr 1; rw [Bool.eq_iff_iff, decide_eq_true_iff, decide_eq_true_iff]; omega
      · rw [if_neg h]; congr 1; rw [Bool.eq_iff_iff, decide_eq_true_iff]; simp; omega
    rw [hS, hG]
    simp only [Option.bind_some]
    by_cases h1 : isLow (c.toNat : Int) = true
    · rw [if_pos h1, if_pos h1]
      simp only [run_word.f, runO]
      rw [if_pos (by rw [mkB_size]; omega)]
      rfl
    rw [if_neg h1, if_neg h1]
    by_cases h2 : isUp (c.toNat : Int) = true
    · rw [if_pos h2, if_pos h2]
      simp only [run_verb.f, runO]
      rw [if_pos (by rw [mkB_size]; omega)]
      rfl
    rw [if_neg h2, if_neg h2]
    obtain ⟨t3, e3, i3⟩ := indexB_iff signsL c
    obtain ⟨t4, e4, i4⟩ := indexB_iff advsL c
    obtain ⟨t5, e5, i5⟩ := indexB_iff marksL c
    have e3' : strings_IndexByte.f (⟨#[43, 45, 42, 37, 33, 38, 124, 60, 62, 61, 126, 44, 35, 94, 36, 63, 64]⟩ : ByteArray) (c.toNat : Int) = some t3 := e3
    have e4' : strings_IndexByte.f (⟨#[39, 47, 92, 46, 96]⟩ : ByteArray) (c.toNat : Int) = some t4 := e4
    have e5' : strings_IndexByte.f (⟨#[40, 41, 91, 93, 123, 125, 58]⟩ : ByteArray) (c.toNat : Int) = some t5 := e5
    rw [e3', e4', e5', trimP]
    simp only [Option.bind_some, L_mk]
    by_cases h3 : t3 ≥ 0
    · rw [if_pos h3, if_pos (i3.1 h3)]; rfl
    rw [if_neg h3, if_neg (fun h => h3 (i3.2 h))]
    by_cases h4 : t4 ≥ 0
    · rw [if_pos h4, if_pos (i4.1 h4)]; rfl
    rw [if_neg h4, if_neg (fun h => h4 (i4.2 h))]
    by_cases h5 : t5 ≥ 0
    · rw [if_pos h5, if_pos (i5.1 h5)]; rfl
    rw [if_neg h5, if_neg (fun h => h5 (i5.2 h))]
    have hl := trimC_len 95 (c :: l)
    obtain ⟨f, hf⟩ : ∃ f, trimC 95 (c :: l) = f := ⟨_, rfl⟩
    rw [hf] at hl ⊢
    have hr := runL_le isD f
    have er : run_figure.f (mkB f) = some (runL isD f : Int) := by
      simp only [run_figure.f, runO]
      rw [if_pos (by rw [mkB_size]; omega)]
      rfl
    rw [er]
    simp only [Option.bind_some, mkB_size]
    obtain ⟨n, hn⟩ : ∃ n, (c :: l).length - f.length + runL isD f = n := ⟨_, rfl⟩
    have hw : wrap64 (wrap64 (((c :: l).length : Int) - (f.length : Int)) + (runL isD f : Int)) = (n : Int) := by
      rw [wrap_id (a := ((c :: l).length : Int) - (f.length : Int)) (by omega) (by omega), wrap_id (by omega) (by omega)]; omega
    rw [hw, if_pos (by omega), if_pos (by omega)]
    have hx : (mkB (c :: l)).extract 0 (n : Int).toNat = mkB ((c :: l).take n) := L_ext (by rw [L_extract]; simp [L_mk])
    rw [hx, number_eq _ (by rw [mkB_size, List.length_take]; omega) k hk, L_mk, hn]
    simp only [Option.bind_some]
    cases hN : numberL ((c :: l).take n) with
    | none => rfl
    | some m => rfl
def encT (t : Tk) : S71 := ⟨(t.kind : Int), mkB t.text, (t.pos : Int)⟩
def outL (o : Nat ⊕ List Tk) : List S71 × Int × Int := match o with | .inl e => ([], (e : Int), 2) | .inr ts => (ts.map encT, 0, 0)
theorem lex_l0 (s : ByteArray) (hs : s.size ≤ 256) : ∀ (m k p : Nat) (acc : List S71), p ≤ s.size → s.size - p < m → s.size - p + 1 < k → acc.length ≤ p →
    lex_Lex.l0 k s acc (p : Int) = some (match lexF m p ((L s).drop p) with | .inl e => ([], (e : Int), 2) | .inr ts => (acc ++ ts.map encT, 0, 0)) := by
  intro m
  induction m with
  | zero => intro k p acc _ h; omega
  | succ m ih =>
    intro k p acc hp hm hk ha
    obtain ⟨k, rfl⟩ : ∃ j, k = j + 1 := ⟨k - 1, by omega⟩
    have hlen : ((L s).drop p).length = s.size - p := by rw [List.length_drop, ← L_size]
    simp only [lex_Lex.l0]
    cases hl : (L s).drop p with
    | nil =>
      rw [hl, List.length_nil] at hlen
      rw [if_neg (by omega)]
      simp [lexF]
    | cons c l =>
      rw [hl, List.length_cons] at hlen
      have hpl : p < (L s).length := by rw [← L_size]; omega
      have hg : (L s)[p] = c := by
        have := List.drop_eq_getElem_cons hpl
        rw [hl] at this
        injection this with h1 h2
        exact h1.symm
      rw [if_pos (by omega), if_pos (by omega), if_pos (by decide), L_bt s p hpl, hg]
      have e32 : bt (⟨#[32]⟩ : ByteArray) 0 = ((32 : UInt8).toNat : Int) := by decide
      rw [e32]
      simp only [lexF]
      by_cases hc : c = 32
      · rw [if_pos (by rw [hc]), if_pos hc, wrap_id (by omega) (by omega)]
        have := ih k (p + 1) acc (by omega) (by omega) (by omega) (by omega)
        have hd : (L s).drop (p + 1) = l := by rw [← List.drop_drop, hl]; rfl
        rw [hd] at this
        exact_mod_cast this
      · rw [if_neg (fun h => hc ((byte_iff c 32).1 h)), if_neg hc, if_pos (by omega)]
        have hx : s.extract (p : Int).toNat s.size = mkB (c :: l) := L_ext (by rw [L_end, L_mk, Int.toNat_natCast, hl])
        rw [hx, first_eq _ (by rw [mkB_size, List.length_cons]; omega) (by rw [mkB_size, List.length_cons]; omega) k (by omega), L_mk]
        simp only [Option.bind_some]
        by_cases h0 : (firstL (c :: l)).1 = 0
        · rw [if_pos (by omega), if_pos h0]
        · have hb := firstL_bounds c l h0
          rw [if_neg (by omega), if_neg h0]
          obtain ⟨kk, hkk⟩ : ∃ kk, (firstL (c :: l)).1 = kk := ⟨_, rfl⟩
          obtain ⟨n, hn⟩ : ∃ n, (firstL (c :: l)).2 = n := ⟨_, rfl⟩
          rw [hkk, hn] at hb ⊢
          rw [List.length_cons] at hb
          have hw : wrap64 ((p : Int) + (n : Int)) = ((p + n : Nat) : Int) := by rw [wrap_id (by omega) (by omega)]; omega
          have hacc : acc.length < 4398046511104 := Nat.lt_of_le_of_lt ha (Nat.lt_of_le_of_lt hp (Nat.lt_of_le_of_lt hs (by decide)))
          rw [hw]
          clear hw
          rw [if_pos (by omega), if_pos (by omega), if_pos hacc]
          have hy : s.extract (p : Int).toNat ((p + n : Nat) : Int).toNat = mkB ((c :: l).take n) := L_ext (by
            rw [L_extract, L_mk, Int.toNat_natCast, Int.toNat_natCast, hl, Nat.add_sub_cancel_left])
          rw [hy]
          have hd : (L s).drop (p + n) = (c :: l).drop n := by rw [← List.drop_drop, hl]
          have := ih k (p + n) (acc ++ [(⟨(kk : Int), mkB ((c :: l).take n), (p : Int)⟩ : S71)]) (by omega) (by omega) (by omega) (by rw [List.length_append, List.length_singleton]; omega)
          rw [hd] at this
          rw [this]
          cases lexF m (p + n) ((c :: l).drop n) with
          | inl e => rfl
          | inr ts => simp [encT]
theorem lex_eq (s : ByteArray) (hs : s.size ≤ 256) (k : Nat) (hk : 258 < k) : lex_Lex.f k s = some (outL (lexL (L s))) := by
  unfold lex_Lex.f lexL
  rw [if_neg (by omega)]
  have := lex_l0 s hs (s.size + 1) k 0 [] (by omega) (by omega) (by omega) (by simp)
  rw [List.drop_zero] at this
  have e : ((0 : Nat) : Int) = 0 := rfl
  rw [e] at this
  rw [this, ← L_size]
  cases lexF (s.size + 1) 0 (L s) with
  | inl e => rfl
  | inr ts => rfl
theorem lex_big (s : ByteArray) (hs : 256 < s.size) (k : Nat) : lex_Lex.f k s = some ([], 0, 8) := by
  unfold lex_Lex.f
  rw [if_pos (by omega)]
end Go.Proofs.Ytdelccahgchadaa
end
section
namespace Go.Proofs.Ytdelccahgchadaa
open Go.RowKit Go.Lib Go.Proofs.Ytdelccahgchadaa.P Go.Proofs.YtdelccahgchadaaW.PrintWords Go.Proofs.YtdelccahgchadaaW.PrintMore
set_option linter.unusedVariables false
def isB (s : ByteArray) (kind : Int) : Bool :=
  if s.size ≤ 256 then (match lexL (L s) with | .inr [t] => t.text == L s && decide ((t.kind : Int) = kind) | _ => false) else false
theorem is_eq (s : ByteArray) (kind : Int) (k : Nat) (hk : 258 < k) : tree_is.f k s kind = some (isB s kind) := by
  unfold tree_is.f isB
  by_cases hs : s.size ≤ 256
  · rw [if_pos hs, lex_eq s hs k hk]
    cases lexL (L s) with
    | inl e => simp [outL]
    | inr ts =>
      cases ts with
      | nil => simp [outL]
      | cons t ts =>
        cases ts with
        | nil =>
          simp only [outL, Option.bind_some, List.map_cons, List.map_nil, List.length_singleton]
          rw [if_pos trivial, if_pos (by decide), if_pos (by decide)]
          have q1 : (rd_T71 [encT t] 0).f1.toList = t.text := by
            have : (rd_T71 [encT t] 0).f1 = mkB t.text := rfl
            rw [this, toList_L]
          have q2 : (rd_T71 [encT t] 0).f0 = (t.kind : Int) := rfl
          rw [q1, q2, toList_L]
          by_cases h : t.text = L s
          · rw [if_pos h, h]; simp
            rfl
          · rw [if_neg h]
            have : (t.text == L s) = false := by simpa using h
            rw [this]; rfl
        | cons u ts =>
          simp only [outL, Option.bind_some, List.map_cons, List.length_cons]
          rw [if_pos trivial, if_neg (by omega)]
  · rw [if_neg hs, lex_big s (by omega)]
    simp
def verbB (s : ByteArray) : Bool := s.toList == ([123] : List UInt8) || isB s 4 || isB s 3
theorem verb_eq (s : ByteArray) (k : Nat) (hk : 258 < k) : tree_verb.f k s = some (verbB s) := by
  unfold tree_verb.f verbB
  by_cases h : s.toList = ([123] : List UInt8)
  · rw [if_pos h, h]; rfl
  · rw [if_neg h, is_eq s 4 k hk, is_eq s 3 k hk]
    have : (s.toList == ([123] : List UInt8)) = false := by simpa using h
    rw [this]
    cases isB s 4 <;> simp
def advB (s of : ByteArray) : Bool := s.toList == ([] : List UInt8) || (match L s with | [c] => (L of).contains c | _ => false)
theorem adv_eq (s of : ByteArray) : tree_adv.f s of = some (advB s of) := by
  unfold tree_adv.f advB
  by_cases h : s.toList = ([] : List UInt8)
  · rw [if_pos h, h]; rfl
  · rw [if_neg h]
    have h2 : (s.toList == ([] : List UInt8)) = false := by simpa using h
    rw [h2, Bool.false_or]
    have hz : s.size = (L s).length := L_size s
    unfold strings_Contains.f
    by_cases h1 : (s.size : Int) = 1
    · rw [if_pos h1]
      obtain ⟨c, hc⟩ : ∃ c, L s = [c] := by
        cases hl : L s with
        | nil => rw [hl, List.length_nil] at hz; omega
        | cons c l =>
          cases l with
          | nil => exact ⟨c, rfl⟩
          | cons d l => rw [hl, List.length_cons, List.length_cons] at hz; omega
      have hc2 : s.data.toList = [c] := hc
      rw [hc2, hc]
      simp
    · rw [if_neg h1]
      cases hl : L s with
      | nil => rfl
      | cons c l =>
        cases l with
        | nil => rw [hl, List.length_singleton] at hz; omega
        | cons d l => rfl
end Go.Proofs.Ytdelccahgchadaa
end
section
namespace Go.Proofs.Ytdelccahgchadaa
open Go.RowKit Go.Lib Go.Proofs.Ytdelccahgchadaa.P Go.Proofs.YtdelccahgchadaaW.PrintWords Go.Proofs.YtdelccahgchadaaW.PrintMore
set_option linter.unusedVariables false
theorem rdS_get (l : List ByteArray) (i : Nat) (h : i < l.length) : rdOf ByteArray.empty l (i : Int) = l[i] := by
  unfold rdOf
  rw [Int.toNat_natCast, List.getD_eq_getElem?_getD, List.getElem?_eq_getElem h]
  rfl
theorem IndexNum (l : List ByteArray) (hl : l.length ≤ 1000000) : ∀ (m i k : Nat), l.length - i < m → m ≤ k → i ≤ l.length → ∃ r, slices_IndexFunc_string_string.l0 k l (l.length : Int) (i : Int) = some r ∧ decide (r ≥ 0) = (l.drop i).any fun s => !mayB (L s) := by
  intro m
  induction m with
  | zero => intro i k h; omega
  | succ m ih =>
    intro i k h hk hi
    obtain ⟨k, rfl⟩ : ∃ j, k = j + 1 := ⟨k - 1, by omega⟩
    simp only [slices_IndexFunc_string_string.l0]
    by_cases hlt : (i : Int) < (l.length : Int)
    · have hil : i < l.length := by omega
      rw [if_pos hlt, if_pos (by omega), if_pos hlt, rdS_get l i hil, List.drop_eq_getElem_cons hil, List.any_cons]
      unfold tree_may_1.f
      rw [May_eq]
      simp only [Option.bind_some]
      cases hm : mayB (L l[i]) with
      | false => exact ⟨(i : Int), by simp, by simp⟩
      | true =>
        obtain ⟨r, h1, h2⟩ := ih (i + 1) k (by omega) (by omega) (by omega)
        refine ⟨r, ?_, by rw [h2]; simp⟩
        have hw : wrap64 ((i : Int) + 1) = ((i + 1 : Nat) : Int) := by rw [wrap_id (by omega) (by omega)]; omega
        rw [hw, h1]; rfl
    · rw [if_neg hlt, List.drop_eq_nil_of_le (by omega)]
      exact ⟨-1, rfl, rfl⟩
theorem ContainsNum (l : List ByteArray) (hl : l.length ≤ 1000000) (k : Nat) (hk : l.length + 1 ≤ k) : slices_ContainsFunc_string_string.f k l = some (l.any fun s => !mayB (L s)) := by
  unfold slices_ContainsFunc_string_string.f slices_IndexFunc_string_string.f
  obtain ⟨r, h1, h2⟩ := IndexNum l hl (l.length + 1) 0 k (by omega) hk (by omega)
  have e0 : (0 : Int) = ((0 : Nat) : Int) := rfl
  rw [e0, h1]
  rw [List.drop_zero] at h2
  simp only [Option.bind_some]
  rw [← h2]
  rfl
def noB (s : ByteArray) : Bool := s.toList == ([] : List UInt8)
def mayN (x : Nd) : Bool :=
  if x.f0 = 1 then noB x.f1 && noB x.f2 && noB x.f3 && !(x.f4.length == 0) && decide (x.f4.length ≤ 100) && !(x.f4.any fun s => !mayB (L s))
  else if x.f0 = 2 ∨ x.f0 = 5 ∨ x.f0 = 6 then noB x.f1 && noB x.f2 && x.f4.length == 0 && isB x.f3 2
  else if x.f0 = 7 then noB x.f1 && noB x.f2 && x.f4.length == 0 && isB x.f3 3
  else if x.f0 = 8 then noB x.f1 && noB x.f2 && x.f4.length == 0 && noB x.f3
  else if x.f0 = 3 then x.f4.length == 0 && noB x.f3 && verbB x.f1 && advB x.f2 ⟨#[39, 47, 92, 96]⟩
  else if x.f0 = 4 then x.f4.length == 0 && noB x.f3 && verbB x.f1 && advB x.f2 ⟨#[39, 46]⟩
  else false
theorem if_andT (a x : Bool) : (if a = true then some x else some false) = some (a && x) := by cases a <;> rfl
theorem noB_if (s : ByteArray) (x : Bool) : (if s.toList = ([] : List UInt8) then some x else some false) = some (noB s && x) := by
  unfold noB
  by_cases h : s.toList = ([] : List UInt8)
  · rw [if_pos h, h]; rfl
  · rw [if_neg h]
    have : (s.toList == ([] : List UInt8)) = false := by simpa using h
    rw [this]; rfl
theorem may_eq (x : Nd) (k : Nat) (hk : 400 < k) : tree_may.f k x.f0 x.f1 x.f2 x.f3 x.f4 = some (mayN x) := by
  obtain ⟨k, rfl⟩ : ∃ j, k = j + 2 := ⟨k - 2, by omega⟩
  obtain ⟨k0, v, a, n, l⟩ := x
  simp only []
  have key : ∀ pl : Bool, pl = (noB v && noB a) → tree_may.j0 (k + 2) ((l.length : Int) == 0) pl k0 v a n l = some (mayN ⟨k0, v, a, n, l⟩) := by
    intro pl hpl
    have hbare : ((l.length : Int) == 0) = (l.length == 0) := by
      rw [Bool.eq_iff_iff]; simp
    rw [hbare]
    simp only [tree_may.j0, tree_may.j1, is_eq _ _ k (by omega), verb_eq _ k (by omega), adv_eq, Option.bind_some, if_andT, noB_if, mayN, ← hpl]
    have hcn : (if (l.length : Int) ≤ 100 then (slices_ContainsFunc_string_string.f (k + 1) l).bind fun t => some (!t) else some false) = some (decide (l.length ≤ 100) && !(l.any fun s => !mayB (L s))) := by
      by_cases h : l.length ≤ 100
      · rw [if_pos (by omega), ContainsNum l (by omega) (k + 1) (by omega), decide_eq_true h]
        rfl
      · rw [if_neg (by omega), decide_eq_false h]
        rfl
    rw [hcn]
    by_cases h1 : k0 = 1
    · subst h1
      cases pl <;> cases (l.length == 0) <;> by_cases hn : n.toList = [] <;> simp [noB, hn]
    rw [if_neg h1, if_neg h1]
    by_cases h2 : k0 = 2
    · subst h2; simp [Bool.and_assoc]
    by_cases h5 : k0 = 5
    · subst h5; simp [Bool.and_assoc]
    by_cases h6 : k0 = 6
    · subst h6; simp [Bool.and_assoc]
    have h256 : ¬ (k0 = 2 ∨ k0 = 5 ∨ k0 = 6) := by omega
    have hb6 : ¬ (k0 == 6) = true := by simpa using h6
    rw [if_neg h2, if_neg h5, if_neg hb6, if_neg h256]
    by_cases h7 : k0 = 7
    · subst h7; simp [Bool.and_assoc]
    rw [if_neg h7, if_neg h7]
    by_cases h8 : k0 = 8
    · subst h8; simp [Bool.and_assoc, noB]
    rw [if_neg h8, if_neg h8]
    by_cases h3 : k0 = 3
    · subst h3; simp [Bool.and_assoc]
    rw [if_neg h3, if_neg h3]
    by_cases h4 : k0 = 4
    · subst h4; simp [Bool.and_assoc]
    rw [if_neg h4, if_neg h4]
  unfold tree_may.f
  by_cases hv : v.toList = ([] : List UInt8)
  · rw [if_pos hv]
    exact key _ (by unfold noB; rw [hv]; rfl)
  · rw [if_neg hv]
    exact key _ (by
      unfold noB
      have : (v.toList == ([] : List UInt8)) = false := by simpa using hv
      rw [this]; rfl)
end Go.Proofs.Ytdelccahgchadaa
end
section
namespace Go.Proofs.Ytdelccahgchadaa
open Go.RowKit Go.Lib Go.Proofs.Ytdelccahgchadaa.P Go.Proofs.YtdelccahgchadaaW.PrintWords Go.Proofs.YtdelccahgchadaaW.PrintMore
set_option linter.unusedVariables false
def headB (x : Nd) : Bool := decide (x.f0 = 5 ∨ x.f0 = 6 ∨ x.f0 = 7)
theorem head_eq (a : Int) (b c d : ByteArray) (l : List ByteArray) : tree_head.f a b c d l = some (decide (a = 5 ∨ a = 6 ∨ a = 7)) := by
  unfold tree_head.f
  by_cases h5 : a = 5
  · subst h5; simp
  by_cases h6 : a = 6
  · subst h6; simp
  by_cases h7 : a = 7
  · subst h7; simp
  simp [h5, h6, h7]
def allN : Nat → List Nd → Bool
  | _, [] => true
  | i, x :: l => mayN x && !(headB x && decide (0 < i)) && allN (i + 1) l
theorem May_l0 (l0 : List Nd) (hl : l0.length ≤ 1000000) : ∀ (l : List Nd) (i k : Nat), l0.drop i = l → i ≤ l0.length → l.length + 410 ≤ k → tree_May.l0 k l0 (l0.length : Int) (i : Int) = some (allN i l) := by
  intro l
  induction l with
  | nil =>
    intro i k hd hi hk
    obtain ⟨k, rfl⟩ : ∃ j, k = j + 1 := ⟨k - 1, by rw [List.length_nil] at hk; omega⟩
    have : l0.length ≤ i := by
      have := congrArg List.length hd
      rw [List.length_drop, List.length_nil] at this
      omega
    simp only [tree_May.l0]
    rw [if_neg (by omega)]
    rfl
  | cons x l ih =>
    intro i k hd hi hk
    rw [List.length_cons] at hk
    obtain ⟨k, rfl⟩ : ∃ j, k = j + 1 := ⟨k - 1, by omega⟩
    obtain ⟨hr, hlt, hd2⟩ := rd_drop l0 i x l hd
    have hi2 := ih (i + 1) k hd2 (by omega) (by omega)
    simp only [tree_May.l0]
    rw [if_pos (by omega), if_pos (by omega), if_pos (by omega), hr, may_eq x k (by omega), head_eq]
    have w1 : wrap64 ((i : Int) + 1) = ((i + 1 : Nat) : Int) := by rw [wrap_id (by omega) (by omega)]; omega
    rw [w1, hi2]
    clear w1
    simp only [Option.bind_some, allN, headB]
    cases mayN x with
    | false => rfl
    | true =>
      cases decide (x.f0 = 5 ∨ x.f0 = 6 ∨ x.f0 = 7) with
      | false => simp
      | true =>
        by_cases h0 : 0 < i
        · rw [if_pos rfl, if_pos rfl, if_pos (by omega), decide_eq_true h0]; rfl
        · rw [if_pos rfl, if_pos rfl, if_neg (by omega), decide_eq_false h0]; simp
def mayL (l : List Nd) : Bool := decide (endW kdT l 1 = some l.length) && decide (depL kdT l ≤ 40) && allN 0 l
theorem May_eqL (l : List Nd) (hl : l.length ≤ 1000000) (k : Nat) (hk : 5 * l.length + 420 ≤ k) : tree_May.f k l = some (mayL l) := by
  unfold tree_May.f mayL
  have e0 : (0 : Int) = ((0 : Nat) : Int) := rfl
  have hE := End_eq l hl 0 (by omega) k (by omega)
  rw [List.drop_zero, ← e0] at hE
  have hD := Depth_eq l hl k (by omega)
  obtain ⟨j, rfl⟩ : ∃ j, k = j + 1 := ⟨k - 1, by omega⟩
  have hM := May_l0 l hl l 0 j rfl (by omega) (by omega)
  rw [← e0] at hM
  rw [hE, hD]
  simp only [Option.bind_some, tree_May.j0, hM]
  cases h : endW kdT l 1 with
  | none => simp [outE]
  | some m =>
    simp only [outE, Nat.zero_add]
    rw [if_pos trivial]
    by_cases hm : m = l.length
    · subst hm
      rw [if_pos rfl]
      by_cases hd : depL kdT l ≤ 40
      · have : decide ((depL kdT l : Int) > 40) = false := decide_eq_false (by omega)
        rw [this, decide_eq_true hd]; simp
      · have : decide ((depL kdT l : Int) > 40) = true := decide_eq_true (by omega)
        rw [this, decide_eq_false hd]; simp
    · rw [if_neg (by omega), if_pos trivial]
      have : decide (some m = some l.length) = false := decide_eq_false (fun h => hm (Option.some.inj h))
      rw [this]; rfl
theorem mayL_parts {l : List Nd} (h : mayL l = true) : endW kdT l 1 = some l.length ∧ depL kdT l ≤ 40 ∧ allN 0 l = true := by
  unfold mayL at h
  simp only [Bool.and_eq_true, decide_eq_true_eq] at h
  exact ⟨h.1.1, h.1.2, h.2⟩
end Go.Proofs.Ytdelccahgchadaa
end
