/- The law TreeSame: its row, proved; all that it rests on stands in the texts ahead of it. No conditions. -/
import Derived.Test.YtdelccahgchadaaKTreeSame4
import Derived.ProofKit
import Derived.OpenShut
import Derived.ShutString
import Derived.ChangeOld
import Derived.SizedLaws
import Derived.ChangeSlices
import Derived.Deep.Slices
import Derived.Lib.IndexBytes
import Derived.Test.YtdelccahgchadaaRows
set_option linter.unusedVariables false
set_option linter.unusedSimpArgs false
section
namespace Go.Proofs.Ytdelccahgchadaa.P
open Go.RowKit Go.Proofs.YtdelccahgchadaaW.PrintWords Go.Proofs.YtdelccahgchadaaW.PrintLast Go.Proofs.YtdelccahgchadaaW.PrintMore
attribute [local go_sem] max2_int min2_int max_two min_two max_three min_three max_four min_four   
set_option linter.unusedVariables false
set_option linter.unusedSimpArgs false
def reredoslaw08_TreeSame.j0 : Nat → List (S25) → List (S25) → Bool → Bool → Int → ByteArray → ByteArray → ByteArray → List ByteArray → Option (Bool)
  | 0, _, _, _, _, _, _, _, _, _ => none
  | k + 1, x0, x1, x7, x17, x408000, x408001, x408002, x408003, x408004 => if x17 = true then (some x7) else ((some (([(⟨x408000, x408001, x408002, x408003, x408004⟩ : S25)] : List (S25)) : List (S25))).bind fun y411 => (if y411.length + x0.length < 1759218604441 then ((some (y411 ++ x0 : List (S25))).bind fun y414 => (if y414.length + x1.length < 1759218604441 then (if x7 = true then ((tree_Same.f k x0 x1).bind fun t420 => ((reredosref08_Same.f k x0 x1).bind fun t421 => (if (t420 == t421) = true then ((tree_Node.f k x408000 x408001 x408002 x408003 x408004 (([x0, x1] : List (List (S25))))).bind fun t425 => ((reredosref08_Same.f k t425 (y414 ++ x1)).bind fun t428 => (if t428 = true then ((tree_Node.f k x408000 x408001 x408002 x408003 x408004 ([] : List (List (S25)))).bind fun t429 => ((reredosref08_Same.f k t429 (([(⟨x408000, x408001, x408002, x408003, x408004⟩ : S25)] : List (S25)))).bind fun t435 => (some t435))) else (none)))) else (none)))) else (none)) else (none))) else (none)))
def reredoslaw08_TreeSame.f (k : Nat) (l0 : List (S25)) (l1 : List (S25)) (a2_0 : Int) (a2_1 : ByteArray) (a2_2 : ByteArray) (a2_3 : ByteArray) (l2_4 : List ByteArray) : Option (Bool) := (reredoslaw08_shown.f k).bind fun t408 => ((reredosref08_Few.f k l0).bind fun t409 => (if t409 = true then ((reredosref08_Few.f k l1).bind fun t410 => (reredoslaw08_TreeSame.j0 k l0 l1 t408 (!t410) a2_0 a2_1 a2_2 a2_3 l2_4)) else (reredoslaw08_TreeSame.j0 k l0 l1 t408 true a2_0 a2_1 a2_2 a2_3 l2_4)))
theorem reredoslaw08_TreeSame.mono_l : ∀ k, (∀ y0 y1 y2 y3 y4 y5 y6 y7 y8, LeO (reredoslaw08_TreeSame.j0 k y0 y1 y2 y3 y4 y5 y6 y7 y8) (reredoslaw08_TreeSame.j0 (k + 1) y0 y1 y2 y3 y4 y5 y6 y7 y8))
  | 0 => fun _ _ _ _ _ _ _ _ _ r h => by simp [reredoslaw08_TreeSame.j0] at h
  | k + 1 => by
    have ih0 := reredoslaw08_TreeSame.mono_l k
    · intro y0 y1 y2 y3 y4 y5 y6 y7 y8
      unfold reredoslaw08_TreeSame.j0
      repeat' first
      | (with_reducible exact ih0 _ _ _ _ _ _ _ _ _)
      | (with_reducible exact reredoslaw08_shown.mono _)
      | (with_reducible exact reredosref08_Few.mono _ _)
      | (with_reducible exact reredosref08_Same.mono _ _ _)
      | (with_reducible exact tree_Node.mono _ _ _ _ _ _ _)
      | (with_reducible exact tree_Same.mono _ _ _)
      | (with_reducible exact LeO.refl _)
      | (with_reducible exact LeO.none _)
      | (with_reducible refine LeO.ite ?_ ?_)
      | (with_reducible refine LeO.bind ?_ (fun _ => ?_))
      | exact ih0 _ _ _ _ _ _ _ _ _
      | exact reredoslaw08_shown.mono _
      | exact reredosref08_Few.mono _ _
      | exact reredosref08_Same.mono _ _ _
      | exact tree_Node.mono _ _ _ _ _ _ _
      | exact tree_Same.mono _ _ _
      | exact LeO.none _
      | refine LeO.ite ?_ ?_
      | refine LeO.bind ?_ (fun _ => ?_)
theorem reredoslaw08_TreeSame.mono : ∀ a0 a1 a2 a3 a4 a5 a6 k, LeO (reredoslaw08_TreeSame.f k a0 a1 a2 a3 a4 a5 a6) (reredoslaw08_TreeSame.f (k + 1) a0 a1 a2 a3 a4 a5 a6) := by
  intro a0 a1 a2 a3 a4 a5 a6 k
  have ih0 := reredoslaw08_TreeSame.mono_l k
  unfold reredoslaw08_TreeSame.f
  repeat' first
      | (with_reducible exact ih0 _ _ _ _ _ _ _ _ _)
      | (with_reducible exact reredoslaw08_shown.mono _)
      | (with_reducible exact reredosref08_Few.mono _ _)
      | (with_reducible exact reredosref08_Same.mono _ _ _)
      | (with_reducible exact tree_Node.mono _ _ _ _ _ _ _)
      | (with_reducible exact tree_Same.mono _ _ _)
      | (with_reducible exact LeO.refl _)
      | (with_reducible exact LeO.none _)
      | (with_reducible refine LeO.ite ?_ ?_)
      | (with_reducible refine LeO.bind ?_ (fun _ => ?_))
      | exact ih0 _ _ _ _ _ _ _ _ _
      | exact reredoslaw08_shown.mono _
      | exact reredosref08_Few.mono _ _
      | exact reredosref08_Same.mono _ _ _
      | exact tree_Node.mono _ _ _ _ _ _ _
      | exact tree_Same.mono _ _ _
      | exact LeO.none _
      | refine LeO.ite ?_ ?_
      | refine LeO.bind ?_ (fun _ => ?_)
def reredoslaw08_TreeSame.T6 : Bool × List (List Nat × List Nat) := (true, [([], []), ([0], [0]), ([1], [1]), ([1], [1]), ([2, 3, 1, 1], [1, 2, 3]), ([1], [1]), ([1], [1]), ([5, 6, 4, 1], [1, 5, 6]), ([4, 7, 1], [1, 4, 7]), ([1, 8], [1, 8]), ([9, 7], [9]), ([10], [10]), ([10], [10]), ([10], [10]), ([12, 13, 10], [10, 12, 13]), ([11, 14, 10, 10], [10, 11, 14]), ([10], [10]), ([15, 16, 15, 10], [10, 15, 16]), ([10, 17], [10, 17]), ([18, 17], [18]), ([19], [19]), ([20, 19, 19], [19, 20]), ([19], [19]), ([22, 19], [19, 22]), ([21, 23, 21, 19], [19, 21, 23]), ([19, 24], [19, 24]), ([25, 24, 0, 1, 2, 3, 4, 5, 6, 7, 8, 9, 10, 11, 12, 13, 14, 15, 16, 17, 18, 19, 20, 21, 22, 23, 24, 25], [25])])
def reredoslaw08_TreeSame.B6 : List Nat := [0, 1, 3, 3, 15, 3, 3, 127, 255, 511, 1023, 2047, 2047, 2047, 14335, 32767, 2047, 131071, 262143, 524287, 1048575, 2097151, 1048575, 5242879, 16777215, 33554431, 67108863]
theorem reredoslaw08_TreeSame.tab6 : rtab .any (opsOf Try.f5 6) = reredoslaw08_TreeSame.T6 := by kernel_rfl
theorem reredoslaw08_TreeSame.bits6 : waitsOk reredoslaw08_TreeSame.T6.2 reredoslaw08_TreeSame.B6 = true := by kernel_rfl
set_option maxHeartbeats 8000000 in
set_option maxRecDepth 100000 in
theorem reredoslaw08_TreeSame.calls (k : Nat) (P0_ : Nat → Prop) (A0 : Option Addr) (c0 : Nat) (l0 : List (S25)) (P1_ : Nat → Prop) (A1 : Option Addr) (c1 : Nat) (l1 : List (S25)) (a2_0 : Int) (a2_1 : ByteArray) (a2_2 : ByteArray) (a2_3 : ByteArray) (P2_4_ : Nat → Prop) (A2_4 : Option Addr) (c2_4 : Nat) (l2_4 : List ByteArray) (r : Bool) (w : World) (hs0 : Kd.V k25 25 w w.heap.size (fun k_ => P0_ k_) (.slice A0 l0.length c0) l0) (hs1 : Kd.V k25 25 w w.heap.size (fun k_ => P1_ k_) (.slice A1 l1.length c1) l1) (hs2_4 : Kd.V Kd.string 9 w w.heap.size (fun k_ => P2_4_ k_) (.slice A2_4 l2_4.length c2_4) l2_4) (h : reredoslaw08_TreeSame.f k l0 l1 a2_0 a2_1 a2_2 a2_3 l2_4 = some r) :
    Calls Try.prog 5 #[.slice A0 l0.length c0, .slice A1 l1.length c1, .agg #[.int .i64 a2_0, .string a2_1, .string a2_2, .string a2_3, .slice A2_4 l2_4.length c2_4]] w fun e w' => e = .returned (.bool r) ∧ Below w.heap.size w w' := by
  have hu25 := Try.underlying25
  have HO0 := Aside0.mk (show Kd.V k25 25 w w.heap.size (fun k_ => ((P0_ k_ ∨ P1_ k_ ∨ P2_4_ k_) ∨ w.heap.size ≤ k_)) (.slice A0 l0.length c0) l0 from Kd.V_mono hs0 (fun k_ hk => .inl (.inl hk)))
  have HO1 := Aside0.mk (show Kd.V k25 25 w w.heap.size (fun k_ => ((P0_ k_ ∨ P1_ k_ ∨ P2_4_ k_) ∨ w.heap.size ≤ k_)) (.slice A1 l1.length c1) l1 from Kd.V_mono hs1 (fun k_ hk => .inl (.inr (.inl hk))))
  have HO2_4 := Aside0.mk (show Kd.V Kd.string 9 w w.heap.size (fun k_ => ((P0_ k_ ∨ P1_ k_ ∨ P2_4_ k_) ∨ w.heap.size ≤ k_)) (.slice A2_4 l2_4.length c2_4) l2_4 from Kd.V_mono hs2_4 (fun k_ hk => .inl (.inr (.inr hk))))
  have HB := Aside0.mk (Below.refl w.heap.size w)
  have H : ((reredoslaw08_shown.f k).bind fun t408 => ((reredosref08_Few.f k l0).bind fun t409 => (if t409 = true then ((reredosref08_Few.f k l1).bind fun t410 => (reredoslaw08_TreeSame.j0 k l0 l1 t408 (!t410) a2_0 a2_1 a2_2 a2_3 l2_4)) else (reredoslaw08_TreeSame.j0 k l0 l1 t408 true a2_0 a2_1 a2_2 a2_3 l2_4)))) = some r := h
  clear h
  replace H := Option.bind_eq_some_iff.mp H
  obtain ⟨t408, A40, H⟩ := H
  replace H : ((reredosref08_Few.f k l0).bind fun t409 => (if t409 = true then ((reredosref08_Few.f k l1).bind fun t410 => (reredoslaw08_TreeSame.j0 k l0 l1 t408 (!t410) a2_0 a2_1 a2_2 a2_3 l2_4)) else (reredoslaw08_TreeSame.j0 k l0 l1 t408 true a2_0 a2_1 a2_2 a2_3 l2_4))) = some r := H
  have A4 := Aside0.mk A40
  clear A40
  have HC5 := Aside0.mk H
  clear H
  go_enter Try.func5, Try.ntmps5
  go_upto_region 2 with (first | ((with_reducible refine gate_dst (N := 5) rfl ?_); (try (refine gate_guard (by rfl) ?_; dsimp only)); refine box_event ?hg (N := 5) ?hd (cs := #[.int .i64 a2_0, .string a2_1, .string a2_2, .string a2_3, .slice A2_4 l2_4.length c2_4]) (t := 25) ?hr ?_; (case hd => rfl); (case hg => rfl); (case hr => first | (go_simp; done) | (go_simp; rfl)); intro gb407 hg w6 hbox hb; have n0_ := Aside0.mk (Kd.V_below (Kd.V_elderB (by (with_reducible repeat (first | apply Kd.V_alloc | apply Kd.V_drewN | apply Kd.V_drew)); exact HO0.out) gb407 (Nat.le_of_eq hg.symm)) hb); have n1_ := Aside0.mk (Kd.V_below (Kd.V_elderB (by (with_reducible repeat (first | apply Kd.V_alloc | apply Kd.V_drewN | apply Kd.V_drew)); exact HO1.out) gb407 (Nat.le_of_eq hg.symm)) hb); have n2_ := Aside0.mk (Kd.V_below (Kd.V_elderB (by (with_reducible repeat (first | apply Kd.V_alloc | apply Kd.V_drewN | apply Kd.V_drew)); exact HO2_4.out) gb407 (Nat.le_of_eq hg.symm)) hb); have n3_ := Aside0.mk (below_step (by repeat (first | (with_reducible first | exact HB.out | apply below_alloc | apply pw_below_drewN | apply below_drew1) | exact HB.out)) hb); have n4_ := Aside0.mk (hbox); have n5_ := Aside0.mk ((by rw [hg]; exact (below_size (by repeat (first | (with_reducible first | exact HB.out | apply below_alloc | apply pw_below_drewN | apply below_drew1) | exact HB.out))) : w.heap.size ≤ gb407)); have n6_ := Aside0.mk ((by rw [hg]; exact (below_size (by repeat (first | (with_reducible first | exact HB.out | apply below_alloc | apply pw_below_drewN | apply below_drew1) | exact HB.out))) : w.heap.size ≤ gb407)); clear HO0; clear HO1; clear HO2_4; clear HB; have HO0 := n0_; have HO1 := n1_; have HO2_4 := n2_; have HB := n3_; have BK407 := n4_; have GW407 := n5_; have GE407 := n6_; clear n0_ n1_ n2_ n3_ n4_ n5_ n6_; clear hb hbox hg) | ((with_reducible refine gate_callee (f := 17) rfl ?_); refine goesL_ (some 9) rfl rfl Try.func17 (by kernel_rfl) rfl #[] rfl (by (try simp only [List.map_toArray, List.map_cons, List.map_nil]); first | done | rfl | (simp only [List.length_drop, List.length_take]; rfl)) ?_; (with_reducible refine (reredoslaw08_shown.calls k  t408 _ A4.out).mono ?_); rintro e w7 ⟨rfl, hb⟩; refine ⟨_, rfl, ?_⟩; have n0_ := Aside0.mk (Kd.V_below (by (with_reducible repeat (first | apply Kd.V_alloc | apply Kd.V_drewN | apply Kd.V_drew)); exact HO0.out) hb); have n1_ := Aside0.mk (Kd.V_below (by (with_reducible repeat (first | apply Kd.V_alloc | apply Kd.V_drewN | apply Kd.V_drew)); exact HO1.out) hb); have n2_ := Aside0.mk (Kd.V_below (by (with_reducible repeat (first | apply Kd.V_alloc | apply Kd.V_drewN | apply Kd.V_drew)); exact HO2_4.out) hb); have n3_ := Aside0.mk (blk_below (g := gb407) (o := .cells #[.int .i64 a2_0, .string a2_1, .string a2_2, .string a2_3, .slice A2_4 l2_4.length c2_4] 25 (0, 0)) (by (with_reducible repeat (first | refine blk_drewN ?_ _ | refine blk_drew ?_ | refine blk_alloc ?_ _)); exact BK407.out) hb); have n4_ := Aside0.mk (below_step (by repeat (first | (with_reducible first | exact HB.out | apply below_alloc | apply pw_below_drewN | apply below_drew1 | refine below_set ?_ GE407.out) | exact HB.out)) hb); clear HO0; clear HO1; clear HO2_4; clear BK407; clear HB; have HO0 := n0_; have HO1 := n1_; have HO2_4 := n2_; have BK407 := n3_; have HB := n4_; clear n0_ n1_ n2_ n3_ n4_; (try clear hb); (try clear hb2); (try clear hk); (try clear hi)))
  (try simp only [Act.put, List.setIfInBounds_toArray, List.set_cons_zero, List.set_cons_succ])
  go_cut [17] (fun v17 wc => ∃ (kq : Nat) (x17_4 : Bool), v17 = .bool x17_4 ∧ Aside0 (reredoslaw08_TreeSame.j0 kq l0 l1 t408 x17_4 a2_0 a2_1 a2_2 a2_3 l2_4 = some r) ∧ Aside0 (kq ≤ k) ∧ Aside0 (Kd.V k25 25 wc w.heap.size (fun k_ => ((P0_ k_ ∨ P1_ k_ ∨ P2_4_ k_) ∨ w.heap.size ≤ k_) ∧ k_ ≠ gb407) (.slice A0 l0.length c0) l0) ∧ Aside0 (Kd.V k25 25 wc w.heap.size (fun k_ => ((P0_ k_ ∨ P1_ k_ ∨ P2_4_ k_) ∨ w.heap.size ≤ k_) ∧ k_ ≠ gb407) (.slice A1 l1.length c1) l1) ∧ Aside0 (Kd.V Kd.string 9 wc w.heap.size (fun k_ => ((P0_ k_ ∨ P1_ k_ ∨ P2_4_ k_) ∨ w.heap.size ≤ k_) ∧ k_ ≠ gb407) (.slice A2_4 l2_4.length c2_4) l2_4) ∧ Aside0 (wc.heap[gb407]? = some (.cells #[.int .i64 a2_0, .string a2_1, .string a2_2, .string a2_3, (.slice A2_4 l2_4.length c2_4)] 25 (0, 0))) ∧ Aside0 (Below w.heap.size w wc))
  case first =>
    have H := HC5.out
    clear HC5
    replace H := Option.bind_eq_some_iff.mp H
    obtain ⟨t409, A80, H⟩ := H
    replace H : (if t409 = true then ((reredosref08_Few.f k l1).bind fun t410 => (reredoslaw08_TreeSame.j0 k l0 l1 t408 (!t410) a2_0 a2_1 a2_2 a2_3 l2_4)) else (reredoslaw08_TreeSame.j0 k l0 l1 t408 true a2_0 a2_1 a2_2 a2_3 l2_4)) = some r := H
    have A8 := Aside0.mk A80
    clear A80
    by_cases c9 : t409 = true
    · subst c9
      have H1 : ((reredosref08_Few.f k l1).bind fun t410 => (reredoslaw08_TreeSame.j0 k l0 l1 t408 (!t410) a2_0 a2_1 a2_2 a2_3 l2_4)) = some r := by rw [if_pos rfl] at H; exact H
      clear H
      have H := H1
      clear H1
      replace H := Option.bind_eq_some_iff.mp H
      obtain ⟨t410, A100, H⟩ := H
      replace H : (reredoslaw08_TreeSame.j0 k l0 l1 t408 (!t410) a2_0 a2_1 a2_2 a2_3 l2_4) = some r := H
      have A10 := Aside0.mk A100
      clear A100
      have H' := Aside0.mk H
      clear H
      go_wp2_with (first | ((with_reducible refine gate_callee (f := 18) rfl ?_); refine goesL_ (some 11) rfl rfl Try.func18 (by kernel_rfl) rfl #[.slice A0 l0.length c0] rfl (by (try simp only [List.map_toArray, List.map_cons, List.map_nil]); first | done | rfl | (simp only [List.length_drop, List.length_take]; rfl)) ?_; (with_reducible refine (reredosref08_Few.calls k _ _ l0 true _ ?side1 ?side2 A8.out).mono ?_); (case side1 => repeat (first | exact (Kd.V_reads' HO0.out).2.2 | (with_reducible refine Kd.C_alloc ?_ _) | (with_reducible refine Kd.C_drewN ?_ _) | (with_reducible refine Kd.C_drew ?_))); (case side2 => exact (Kd.V_reads' HO0.out).2.1); rintro e w' ⟨rfl, ⟨nd, rfl⟩⟩; refine ⟨_, rfl, ?_⟩) | (go_at_call 18; (with_reducible refine (reredosref08_Few.calls k _ _ l1 t410 _ ?side1 ?side2 A10.out).mono ?_); (case side1 => repeat (first | exact (Kd.V_reads' HO1.out).2.2 | (with_reducible refine Kd.C_alloc ?_ _) | (with_reducible refine Kd.C_drewN ?_ _) | (with_reducible refine Kd.C_drew ?_))); (case side2 => exact (Kd.V_reads' HO1.out).2.1); rintro e w' ⟨rfl, ⟨nd, rfl⟩⟩))
      go_meet
      case rel => exact ⟨_, (!t410), (by first | rfl | (simp; done) | (simp [*]; done)), H', ⟨by first | omega | exact Nat.le_refl _⟩, ⟨by (with_reducible repeat (first | apply Kd.V_alloc | apply Kd.V_drewN | apply Kd.V_drew)); exact HO0.out⟩, ⟨by (with_reducible repeat (first | apply Kd.V_alloc | apply Kd.V_drewN | apply Kd.V_drew)); exact HO1.out⟩, ⟨by (with_reducible repeat (first | apply Kd.V_alloc | apply Kd.V_drewN | apply Kd.V_drew)); exact HO2_4.out⟩, ⟨by (with_reducible repeat (first | refine blk_drewN ?_ _ | refine blk_drew ?_ | refine blk_alloc ?_ _)); exact BK407.out⟩, ⟨by repeat (first | (with_reducible first | exact HB.out | apply below_alloc | apply pw_below_drewN | apply below_drew1 | refine below_set ?_ GE407.out) | exact HB.out)⟩⟩
    · replace c9 := Bool.eq_false_iff.mpr c9
      subst c9
      have H1 : (reredoslaw08_TreeSame.j0 k l0 l1 t408 true a2_0 a2_1 a2_2 a2_3 l2_4) = some r := by rw [if_neg (show ¬ (false = true) by decide)] at H; exact H
      clear H
      have H := H1
      clear H1
      have H' := Aside0.mk H
      clear H
      go_wp2_with (first | ((with_reducible refine gate_callee (f := 18) rfl ?_); refine goesL_ (some 11) rfl rfl Try.func18 (by kernel_rfl) rfl #[.slice A0 l0.length c0] rfl (by (try simp only [List.map_toArray, List.map_cons, List.map_nil]); first | done | rfl | (simp only [List.length_drop, List.length_take]; rfl)) ?_; (with_reducible refine (reredosref08_Few.calls k _ _ l0 false _ ?side1 ?side2 A8.out).mono ?_); (case side1 => repeat (first | exact (Kd.V_reads' HO0.out).2.2 | (with_reducible refine Kd.C_alloc ?_ _) | (with_reducible refine Kd.C_drewN ?_ _) | (with_reducible refine Kd.C_drew ?_))); (case side2 => exact (Kd.V_reads' HO0.out).2.1); rintro e w' ⟨rfl, ⟨nd, rfl⟩⟩; refine ⟨_, rfl, ?_⟩))
      go_meet
      case rel => exact ⟨_, (true), (by first | rfl | (simp; done) | (simp [*]; done)), H', ⟨by first | omega | exact Nat.le_refl _⟩, ⟨by (with_reducible repeat (first | apply Kd.V_alloc | apply Kd.V_drewN | apply Kd.V_drew)); exact HO0.out⟩, ⟨by (with_reducible repeat (first | apply Kd.V_alloc | apply Kd.V_drewN | apply Kd.V_drew)); exact HO1.out⟩, ⟨by (with_reducible repeat (first | apply Kd.V_alloc | apply Kd.V_drewN | apply Kd.V_drew)); exact HO2_4.out⟩, ⟨by (with_reducible repeat (first | refine blk_drewN ?_ _ | refine blk_drew ?_ | refine blk_alloc ?_ _)); exact BK407.out⟩, ⟨by repeat (first | (with_reducible first | exact HB.out | apply below_alloc | apply pw_below_drewN | apply below_drew1 | refine below_set ?_ GE407.out) | exact HB.out)⟩⟩
  case rest =>
    clear HC5
    try clear c1
    try clear c2
    try clear p2
    try clear c5
    try clear c9
    obtain ⟨kq, x17_4, rfl, HA, HJ4, HO_0, HO_1, HO_408004, BK407, HB⟩ := hcut
    cases kq with
    | zero => exact absurd HA.out (by simp [reredoslaw08_TreeSame.j0])
    | succ kj4 =>
      have H := HA.out
      clear HA
      simp only [reredoslaw08_TreeSame.j0] at H
      by_cases c11 : x17_4 = true
      · subst c11
        have H1 : (some t408) = some r := by rw [if_pos rfl] at H; exact H
        clear H
        have H := H1
        clear H1
        obtain rfl := Option.some.inj H
        go_wp2
        go_ret
        exact ⟨by first | rfl | (simp [errW_none, errW_some] <;> rfl) | (simp [*, errW_none, errW_some] <;> rfl), by repeat (first | (with_reducible first | exact HB.out | apply below_alloc | apply pw_below_drewN | apply below_drew1 | refine below_set ?_ GE407.out) | exact HB.out)⟩
      · replace c11 := Bool.eq_false_iff.mpr c11
        subst c11
        have H1 : ((some (([(⟨a2_0, a2_1, a2_2, a2_3, l2_4⟩ : S25)] : List (S25)) : List (S25))).bind fun y411 => (if y411.length + l0.length < 1759218604441 then ((some (y411 ++ l0 : List (S25))).bind fun y414 => (if y414.length + l1.length < 1759218604441 then (if t408 = true then ((tree_Same.f kj4 l0 l1).bind fun t420 => ((reredosref08_Same.f kj4 l0 l1).bind fun t421 => (if (t420 == t421) = true then ((tree_Node.f kj4 a2_0 a2_1 a2_2 a2_3 l2_4 (([l0, l1] : List (List (S25))))).bind fun t425 => ((reredosref08_Same.f kj4 t425 (y414 ++ l1)).bind fun t428 => (if t428 = true then ((tree_Node.f kj4 a2_0 a2_1 a2_2 a2_3 l2_4 ([] : List (List (S25)))).bind fun t429 => ((reredosref08_Same.f kj4 t429 (([(⟨a2_0, a2_1, a2_2, a2_3, l2_4⟩ : S25)] : List (S25)))).bind fun t435 => (some t435))) else (none)))) else (none)))) else (none)) else (none))) else (none))) = some r := by rw [if_neg (show ¬ (false = true) by decide)] at H; exact H
        clear H
        have H := H1
        clear H1
        obtain ⟨y411, hy411⟩ : ∃ y_ : List (S25), y_ = (([(⟨a2_0, a2_1, a2_2, a2_3, l2_4⟩ : S25)] : List (S25))) := ⟨_, rfl⟩
        replace H : (if y411.length + l0.length < 1759218604441 then ((some (y411 ++ l0 : List (S25))).bind fun y414 => (if y414.length + l1.length < 1759218604441 then (if t408 = true then ((tree_Same.f kj4 l0 l1).bind fun t420 => ((reredosref08_Same.f kj4 l0 l1).bind fun t421 => (if (t420 == t421) = true then ((tree_Node.f kj4 a2_0 a2_1 a2_2 a2_3 l2_4 (([l0, l1] : List (List (S25))))).bind fun t425 => ((reredosref08_Same.f kj4 t425 (y414 ++ l1)).bind fun t428 => (if t428 = true then ((tree_Node.f kj4 a2_0 a2_1 a2_2 a2_3 l2_4 ([] : List (List (S25)))).bind fun t429 => ((reredosref08_Same.f kj4 t429 (([(⟨a2_0, a2_1, a2_2, a2_3, l2_4⟩ : S25)] : List (S25)))).bind fun t435 => (some t435))) else (none)))) else (none)))) else (none)) else (none))) else (none)) = some r := by first | (rw [hy411]; with_reducible exact H) | (have H2_ := (Option.bind_some _ _).symm.trans H; rw [hy411]; with_reducible exact H2_) | (have H2_ := (Option.bind_some _ _).symm.trans H; with_reducible exact H2_) | with_reducible exact H | (rw [hy411]; exact H) | exact H
        have Ny411 := Aside0.mk hy411
        clear hy411
        by_cases c12 : y411.length + l0.length < 1759218604441
        · rw [if_pos c12] at H
          have LMc12 := Aside0.mk c12
          clear c12
          obtain ⟨y414, hy414⟩ : ∃ y_ : List (S25), y_ = (y411 ++ l0) := ⟨_, rfl⟩
          replace H : (if y414.length + l1.length < 1759218604441 then (if t408 = true then ((tree_Same.f kj4 l0 l1).bind fun t420 => ((reredosref08_Same.f kj4 l0 l1).bind fun t421 => (if (t420 == t421) = true then ((tree_Node.f kj4 a2_0 a2_1 a2_2 a2_3 l2_4 (([l0, l1] : List (List (S25))))).bind fun t425 => ((reredosref08_Same.f kj4 t425 (y414 ++ l1)).bind fun t428 => (if t428 = true then ((tree_Node.f kj4 a2_0 a2_1 a2_2 a2_3 l2_4 ([] : List (List (S25)))).bind fun t429 => ((reredosref08_Same.f kj4 t429 (([(⟨a2_0, a2_1, a2_2, a2_3, l2_4⟩ : S25)] : List (S25)))).bind fun t435 => (some t435))) else (none)))) else (none)))) else (none)) else (none)) = some r := by first | (rw [hy414]; with_reducible exact H) | (have H2_ := (Option.bind_some _ _).symm.trans H; rw [hy414]; with_reducible exact H2_) | (have H2_ := (Option.bind_some _ _).symm.trans H; with_reducible exact H2_) | with_reducible exact H | (rw [hy414]; exact H) | exact H
          have Ny414 := Aside0.mk hy414
          clear hy414
          by_cases c13 : y414.length + l1.length < 1759218604441
          · rw [if_pos c13] at H
            have LMc13 := Aside0.mk c13
            clear c13
            obtain ⟨y417, hy417⟩ : ∃ y_ : List (S25), y_ = (y414 ++ l1) := ⟨_, rfl⟩
            replace H : (if t408 = true then ((tree_Same.f kj4 l0 l1).bind fun t420 => ((reredosref08_Same.f kj4 l0 l1).bind fun t421 => (if (t420 == t421) = true then ((tree_Node.f kj4 a2_0 a2_1 a2_2 a2_3 l2_4 (([l0, l1] : List (List (S25))))).bind fun t425 => ((reredosref08_Same.f kj4 t425 y417).bind fun t428 => (if t428 = true then ((tree_Node.f kj4 a2_0 a2_1 a2_2 a2_3 l2_4 ([] : List (List (S25)))).bind fun t429 => ((reredosref08_Same.f kj4 t429 (([(⟨a2_0, a2_1, a2_2, a2_3, l2_4⟩ : S25)] : List (S25)))).bind fun t435 => (some t435))) else (none)))) else (none)))) else (none)) = some r := by first | (rw [hy417]; with_reducible exact H) | (have H2_ := (Option.bind_some _ _).symm.trans H; rw [hy417]; with_reducible exact H2_) | (have H2_ := (Option.bind_some _ _).symm.trans H; with_reducible exact H2_) | with_reducible exact H | (rw [hy417]; exact H) | exact H
            have Ny417 := Aside0.mk hy417
            clear hy417
            by_cases c14 : t408 = true
            · subst c14
              have H1 : ((tree_Same.f kj4 l0 l1).bind fun t420 => ((reredosref08_Same.f kj4 l0 l1).bind fun t421 => (if (t420 == t421) = true then ((tree_Node.f kj4 a2_0 a2_1 a2_2 a2_3 l2_4 (([l0, l1] : List (List (S25))))).bind fun t425 => ((reredosref08_Same.f kj4 t425 y417).bind fun t428 => (if t428 = true then ((tree_Node.f kj4 a2_0 a2_1 a2_2 a2_3 l2_4 ([] : List (List (S25)))).bind fun t429 => ((reredosref08_Same.f kj4 t429 (([(⟨a2_0, a2_1, a2_2, a2_3, l2_4⟩ : S25)] : List (S25)))).bind fun t435 => (some t435))) else (none)))) else (none)))) = some r := by rw [if_pos rfl] at H; exact H
              clear H
              have H := H1
              clear H1
              replace H := Option.bind_eq_some_iff.mp H
              obtain ⟨t420, A150, H⟩ := H
              replace H : ((reredosref08_Same.f kj4 l0 l1).bind fun t421 => (if (t420 == t421) = true then ((tree_Node.f kj4 a2_0 a2_1 a2_2 a2_3 l2_4 (([l0, l1] : List (List (S25))))).bind fun t425 => ((reredosref08_Same.f kj4 t425 y417).bind fun t428 => (if t428 = true then ((tree_Node.f kj4 a2_0 a2_1 a2_2 a2_3 l2_4 ([] : List (List (S25)))).bind fun t429 => ((reredosref08_Same.f kj4 t429 (([(⟨a2_0, a2_1, a2_2, a2_3, l2_4⟩ : S25)] : List (S25)))).bind fun t435 => (some t435))) else (none)))) else (none))) = some r := H
              have A15 := Aside0.mk A150
              clear A150
              replace H := Option.bind_eq_some_iff.mp H
              obtain ⟨t421, A160, H⟩ := H
              replace H : (if (t420 == t421) = true then ((tree_Node.f kj4 a2_0 a2_1 a2_2 a2_3 l2_4 (([l0, l1] : List (List (S25))))).bind fun t425 => ((reredosref08_Same.f kj4 t425 y417).bind fun t428 => (if t428 = true then ((tree_Node.f kj4 a2_0 a2_1 a2_2 a2_3 l2_4 ([] : List (List (S25)))).bind fun t429 => ((reredosref08_Same.f kj4 t429 (([(⟨a2_0, a2_1, a2_2, a2_3, l2_4⟩ : S25)] : List (S25)))).bind fun t435 => (some t435))) else (none)))) else (none)) = some r := H
              have A16 := Aside0.mk A160
              clear A160
              by_cases c17 : (t420 == t421) = true
              · rw [if_pos c17] at H
                have c17b0 : (t420 == t421) = true := c17
                (try (have c17b1 : decide (t420 = t421) = true := by simpa using c17))
                (try (have c17b2 : (t420 == t421) = true := by simpa using c17))
                clear c17
                obtain ⟨y422, hy422⟩ : ∃ y_ : List (List (S25)), y_ = (([l0, l1] : List (List (S25)))) := ⟨_, rfl⟩
                replace H : ((tree_Node.f kj4 a2_0 a2_1 a2_2 a2_3 l2_4 y422).bind fun t425 => ((reredosref08_Same.f kj4 t425 y417).bind fun t428 => (if t428 = true then ((tree_Node.f kj4 a2_0 a2_1 a2_2 a2_3 l2_4 ([] : List (List (S25)))).bind fun t429 => ((reredosref08_Same.f kj4 t429 (([(⟨a2_0, a2_1, a2_2, a2_3, l2_4⟩ : S25)] : List (S25)))).bind fun t435 => (some t435))) else (none)))) = some r := by first | (rw [hy422]; with_reducible exact H) | (have H2_ := (Option.bind_some _ _).symm.trans H; rw [hy422]; with_reducible exact H2_) | (have H2_ := (Option.bind_some _ _).symm.trans H; with_reducible exact H2_) | with_reducible exact H | (rw [hy422]; exact H) | exact H
                have Ny422 := Aside0.mk hy422
                clear hy422
                replace H := Option.bind_eq_some_iff.mp H
                obtain ⟨t425, A180, H⟩ := H
                replace H : ((reredosref08_Same.f kj4 t425 y417).bind fun t428 => (if t428 = true then ((tree_Node.f kj4 a2_0 a2_1 a2_2 a2_3 l2_4 ([] : List (List (S25)))).bind fun t429 => ((reredosref08_Same.f kj4 t429 (([(⟨a2_0, a2_1, a2_2, a2_3, l2_4⟩ : S25)] : List (S25)))).bind fun t435 => (some t435))) else (none))) = some r := H
                have A18 := Aside0.mk A180
                clear A180
                replace H := Option.bind_eq_some_iff.mp H
                obtain ⟨t428, A190, H⟩ := H
                replace H : (if t428 = true then ((tree_Node.f kj4 a2_0 a2_1 a2_2 a2_3 l2_4 ([] : List (List (S25)))).bind fun t429 => ((reredosref08_Same.f kj4 t429 (([(⟨a2_0, a2_1, a2_2, a2_3, l2_4⟩ : S25)] : List (S25)))).bind fun t435 => (some t435))) else (none)) = some r := H
                have A19 := Aside0.mk A190
                clear A190
                by_cases c20 : t428 = true
                · subst c20
                  have H1 : ((tree_Node.f kj4 a2_0 a2_1 a2_2 a2_3 l2_4 ([] : List (List (S25)))).bind fun t429 => ((reredosref08_Same.f kj4 t429 (([(⟨a2_0, a2_1, a2_2, a2_3, l2_4⟩ : S25)] : List (S25)))).bind fun t435 => (some t435))) = some r := by rw [if_pos rfl] at H; exact H
                  clear H
                  have H := H1
                  clear H1
                  replace H := Option.bind_eq_some_iff.mp H
                  obtain ⟨t429, A210, H⟩ := H
                  replace H : ((reredosref08_Same.f kj4 t429 (([(⟨a2_0, a2_1, a2_2, a2_3, l2_4⟩ : S25)] : List (S25)))).bind fun t435 => (some t435)) = some r := H
                  have A21 := Aside0.mk A210
                  clear A210
                  obtain ⟨y432, hy432⟩ : ∃ y_ : List (S25), y_ = (([(⟨a2_0, a2_1, a2_2, a2_3, l2_4⟩ : S25)] : List (S25))) := ⟨_, rfl⟩
                  replace H : ((reredosref08_Same.f kj4 t429 y432).bind fun t435 => (some t435)) = some r := by first | (rw [hy432]; with_reducible exact H) | (have H2_ := (Option.bind_some _ _).symm.trans H; rw [hy432]; with_reducible exact H2_) | (have H2_ := (Option.bind_some _ _).symm.trans H; with_reducible exact H2_) | with_reducible exact H | (rw [hy432]; exact H) | exact H
                  have Ny432 := Aside0.mk hy432
                  clear hy432
                  replace H := Option.bind_eq_some_iff.mp H
                  obtain ⟨t435, A220, H⟩ := H
                  replace H : (some t435) = some r := H
                  have A22 := Aside0.mk A220
                  clear A220
                  obtain rfl := Option.some.inj H
                  have hcz23_0 : wc.cell? ⟨gb407, 0, none⟩ = some (.int .i64 a2_0) := (blk_cell BK407.out 0).trans rfl
                  have hcz23_1 : wc.cell? ⟨gb407, 1, none⟩ = some (.string a2_1) := (blk_cell BK407.out 1).trans rfl
                  have hcz23_2 : wc.cell? ⟨gb407, 2, none⟩ = some (.string a2_2) := (blk_cell BK407.out 2).trans rfl
                  have hcz23_3 : wc.cell? ⟨gb407, 3, none⟩ = some (.string a2_3) := (blk_cell BK407.out 3).trans rfl
                  have hcz23_4 : wc.cell? ⟨gb407, 4, none⟩ = some (.slice A2_4 l2_4.length c2_4) := (blk_cell BK407.out 4).trans rfl
                  have hfz23_0 := blk_frozen BK407.out 0
                  have hfz23_1 := blk_frozen BK407.out 1
                  have hfz23_2 := blk_frozen BK407.out 2
                  have hfz23_3 := blk_frozen BK407.out 3
                  have hfz23_4 := blk_frozen BK407.out 4
                  try go_wp2_with (first | ((with_reducible refine gate_dst (N := 20) rfl ?_); (try (refine gate_guard (by rfl) ?_; dsimp only)); refine Kd.N_lit k25 _ 25 ?hg (N' := 20) ?hd (xs := ([(⟨a2_0, a2_1, a2_2, a2_3, l2_4⟩ : S25)] : List (S25))) (inner := [.int .i64 a2_0, .string a2_1, .string a2_2, .string a2_3, .slice A2_4 l2_4.length c2_4]) (ok := (fun k_ => ((P0_ k_ ∨ P1_ k_ ∨ P2_4_ k_) ∨ w.heap.size ≤ k_) ∧ k_ ≠ gb407)) (okp := (fun k_ => ((P0_ k_ ∨ P1_ k_ ∨ P2_4_ k_) ∨ w.heap.size ≤ k_) ∧ k_ ≠ gb407)) ?hr ?hp (fun _ hk => hk) ((show ∀ k_, wc.heap.size ≤ k_ → (fun k_ => ((P0_ k_ ∨ P1_ k_ ∨ P2_4_ k_) ∨ w.heap.size ≤ k_) ∧ k_ ≠ gb407) k_ from fun k_ hk => ⟨(.inr (Nat.le_trans (below_size (by repeat (first | (with_reducible first | exact HB.out | apply below_alloc | apply pw_below_drewN | apply below_drew1 | refine below_set ?_ GE407.out) | exact HB.out))) hk)), Kd.freshB (g := gb407) (o := .cells #[.int .i64 a2_0, .string a2_1, .string a2_2, .string a2_3, .slice A2_4 l2_4.length c2_4] 25 (0, 0)) (by (with_reducible repeat (first | refine blk_drewN ?_ _ | refine blk_drew ?_ | refine blk_alloc ?_ _)); exact BK407.out) k_ hk⟩) _ (Nat.le_refl _)) (Below.refl _ _) (Nat.le_refl _) (by simp) ?_; (case hd => rfl); (case hg => rfl); (case hr => first | (go_simp; done) | (go_simp; rfl)); (case hp => exact (Reps.c5 (show Kd.FK k25 _ _ (⟨a2_0, a2_1, a2_2, a2_3, l2_4⟩ : S25) [.int .i64 a2_0, .string a2_1, .string a2_2, .string a2_3, .slice A2_4 l2_4.length c2_4] from (k25_mkF _ _ (⟨a2_0, a2_1, a2_2, a2_3, l2_4⟩ : S25) (Kd.V_reads' (Kd.V_mono (ok' := (fun k_ => ((P0_ k_ ∨ P1_ k_ ∨ P2_4_ k_) ∨ w.heap.size ≤ k_) ∧ k_ ≠ gb407)) (HO_408004.out) (fun k_ hk => ⟨hk.1, hk.2⟩))).2.1 (Kd.V_F (base := w.heap.size) (e := 25) (Kd.V_mono (base := w.heap.size) (e := 25) (ok' := (fun k_ => ((P0_ k_ ∨ P1_ k_ ∨ P2_4_ k_) ∨ w.heap.size ≤ k_) ∧ k_ ≠ gb407)) (HO_408004.out) (fun k_ hk => ⟨hk.1, hk.2⟩))))) (Reps.none _ _))); intro v412 w24 ho25 hb hg_ hnew_; clear hg_ hnew_; (first | rw [← Ny411.out] at ho25 | (simp only [Int.reduceToNat] at ho25; rw [← Ny411.out] at ho25)); have n0_ := Aside0.mk (Kd.V_elder' (by (with_reducible repeat (first | apply Kd.V_alloc | apply Kd.V_drewN | apply Kd.V_drew)); exact HO_0.out) (Kd.N_base ho25) hb); have n1_ := Aside0.mk (Kd.V_elder' (by (with_reducible repeat (first | apply Kd.V_alloc | apply Kd.V_drewN | apply Kd.V_drew)); exact HO_1.out) (Kd.N_base ho25) hb); have n2_ := Aside0.mk (Kd.V_elder' (by (with_reducible repeat (first | apply Kd.V_alloc | apply Kd.V_drewN | apply Kd.V_drew)); exact HO_408004.out) (Kd.N_base ho25) hb); have n3_ := Aside0.mk (Kd.N_lower ho25 (below_size (by repeat (first | (with_reducible first | exact HB.out | apply below_alloc | apply pw_below_drewN | apply below_drew1 | refine below_set ?_ GE407.out) | exact HB.out)))); have n4_ := Aside0.mk (blk_below (g := gb407) (o := .cells #[.int .i64 a2_0, .string a2_1, .string a2_2, .string a2_3, .slice A2_4 l2_4.length c2_4] 25 (0, 0)) (by (with_reducible repeat (first | refine blk_drewN ?_ _ | refine blk_drew ?_ | refine blk_alloc ?_ _)); exact BK407.out) hb); have n5_ := Aside0.mk (below_step (by repeat (first | (with_reducible first | exact HB.out | apply below_alloc | apply pw_below_drewN | apply below_drew1 | refine below_set ?_ GE407.out) | exact HB.out)) hb); clear HO_0; clear HO_1; clear HO_408004; clear BK407; clear HB; have HO_0 := n0_; have HO_1 := n1_; have HO_408004 := n2_; have HO413 := n3_; have BK407 := n4_; have HB := n5_; clear n0_ n1_ n2_ n3_ n4_ n5_; clear hb ho25) | ((with_reducible refine gate_builtin (b := .append) (xs := #[.tmp 20, .tmp 21]) rfl ?_); (try (refine gate_guard (by rfl) ?_; dsimp only)); at_builtin; refine Kd.N_append_rows k25 (w0 := w) w.heap.size rfl (.tmp 20) (.tmp 21) 22 25 (.agg #[(.int .i64 0), (.string ⟨#[]⟩), (.string ⟨#[]⟩), (.string ⟨#[]⟩), (.slice none 0 0)]) 80 rfl Try.underlying22 info25 rfl (by decide) (by omega) v412 y411 l0 _ _ _ (fun k_ => ((P0_ k_ ∨ P1_ k_ ∨ P2_4_ k_) ∨ w.heap.size ≤ k_) ∧ k_ ≠ gb407) (fun k_ => ((fun k_ => ((P0_ k_ ∨ P1_ k_ ∨ P2_4_ k_) ∨ w.heap.size ≤ k_) ∧ k_ ≠ gb407)) k_ ∧ some k_ ≠ (v412 : Value).ownBlock) rfl rfl ?aO ?aR (fun _ hk => hk) ?aF ?aB ?aS ?aL ?_; (case aR => exact (by skip; exact Kd.V_F (Kd.V_mono (ok' := (fun k_ => ((fun k_ => ((P0_ k_ ∨ P1_ k_ ∨ P2_4_ k_) ∨ w.heap.size ≤ k_) ∧ k_ ≠ gb407)) k_ ∧ some k_ ≠ (v412 : Value).ownBlock)) (HO_0.out) (fun k_ hk => ⟨⟨hk.1.1, hk.1.2⟩, hk.2⟩)))); (case aB => exact (by repeat (first | (with_reducible first | exact HB.out | apply below_alloc | apply pw_below_drewN | apply below_drew1 | refine below_set ?_ GE407.out) | exact HB.out))); (case aF => exact (fun k_ hk => ⟨(.inr (Nat.le_trans (below_size (by repeat (first | (with_reducible first | exact HB.out | apply below_alloc | apply pw_below_drewN | apply below_drew1 | refine below_set ?_ GE407.out) | exact HB.out))) hk)), Kd.freshB (g := gb407) (o := .cells #[.int .i64 a2_0, .string a2_1, .string a2_2, .string a2_3, .slice A2_4 l2_4.length c2_4] 25 (0, 0)) (by (with_reducible repeat (first | refine blk_drewN ?_ _ | refine blk_drew ?_ | refine blk_alloc ?_ _)); exact BK407.out) k_ hk⟩)); (case aO => exact (by (with_reducible repeat (first | apply Kd.N_alloc | apply Kd.N_drewN | apply Kd.N_drew)); exact HO413.out)); (case aS => exact (below_size (by repeat (first | (with_reducible first | exact HB.out | apply below_alloc | apply pw_below_drewN | apply below_drew1 | refine below_set ?_ GE407.out) | exact HB.out)))); (case aL => have := LMc12.out; omega); intro v415 w26 ho hb hg hat; rw [← Ny414.out] at ho; have n0_ := Aside0.mk (Kd.V_afterv (ok := (fun k_ => ((P0_ k_ ∨ P1_ k_ ∨ P2_4_ k_) ∨ w.heap.size ≤ k_) ∧ k_ ≠ gb407)) (by (with_reducible repeat (first | apply Kd.V_alloc | apply Kd.V_drewN | apply Kd.V_drew)); exact HO_0.out) hg hat); have n1_ := Aside0.mk (Kd.V_afterv (ok := (fun k_ => ((P0_ k_ ∨ P1_ k_ ∨ P2_4_ k_) ∨ w.heap.size ≤ k_) ∧ k_ ≠ gb407)) (by (with_reducible repeat (first | apply Kd.V_alloc | apply Kd.V_drewN | apply Kd.V_drew)); exact HO_1.out) hg hat); have n2_ := Aside0.mk (Kd.V_afterv (ok := (fun k_ => ((P0_ k_ ∨ P1_ k_ ∨ P2_4_ k_) ∨ w.heap.size ≤ k_) ∧ k_ ≠ gb407)) (by (with_reducible repeat (first | apply Kd.V_alloc | apply Kd.V_drewN | apply Kd.V_drew)); exact HO_408004.out) hg hat); have n3_ := Aside0.mk (blk_grown (g := gb407) (o := .cells #[.int .i64 a2_0, .string a2_1, .string a2_2, .string a2_3, .slice A2_4 l2_4.length c2_4] 25 (0, 0)) (by (with_reducible repeat (first | refine blk_drewN ?_ _ | refine blk_drew ?_ | refine blk_alloc ?_ _)); exact BK407.out) hg (Kd.N_away HO413.out (fun _ hk => hk.2))); have n4_ := Aside0.mk (hb); have n5_ := Aside0.mk (ho); clear HO_0; clear HO_1; clear HO_408004; clear BK407; clear HB; clear HO413; have HO_0 := n0_; have HO_1 := n1_; have HO_408004 := n2_; have BK407 := n3_; have HB := n4_; have HO416 := n5_; clear n0_ n1_ n2_ n3_ n4_ n5_; clear ho hb hg hat) | ((with_reducible refine gate_builtin (b := .append) (xs := #[.tmp 23, .tmp 24]) rfl ?_); (try (refine gate_guard (by rfl) ?_; dsimp only)); at_builtin; refine Kd.N_append_rows k25 (w0 := w) w.heap.size rfl (.tmp 23) (.tmp 24) 22 25 (.agg #[(.int .i64 0), (.string ⟨#[]⟩), (.string ⟨#[]⟩), (.string ⟨#[]⟩), (.slice none 0 0)]) 80 rfl Try.underlying22 info25 rfl (by decide) (by omega) v415 y414 l1 _ _ _ (fun k_ => ((P0_ k_ ∨ P1_ k_ ∨ P2_4_ k_) ∨ w.heap.size ≤ k_) ∧ k_ ≠ gb407) (fun k_ => ((fun k_ => ((P0_ k_ ∨ P1_ k_ ∨ P2_4_ k_) ∨ w.heap.size ≤ k_) ∧ k_ ≠ gb407)) k_ ∧ some k_ ≠ (v415 : Value).ownBlock) rfl rfl ?aO ?aR (fun _ hk => hk) ?aF ?aB ?aS ?aL ?_; (case aR => exact (by skip; exact Kd.V_F (Kd.V_mono (ok' := (fun k_ => ((fun k_ => ((P0_ k_ ∨ P1_ k_ ∨ P2_4_ k_) ∨ w.heap.size ≤ k_) ∧ k_ ≠ gb407)) k_ ∧ some k_ ≠ (v415 : Value).ownBlock)) (HO_1.out) (fun k_ hk => ⟨⟨hk.1.1, hk.1.2⟩, hk.2⟩)))); (case aB => exact (by repeat (first | (with_reducible first | exact HB.out | apply below_alloc | apply pw_below_drewN | apply below_drew1 | refine below_set ?_ GE407.out) | exact HB.out))); (case aF => exact (fun k_ hk => ⟨(.inr (Nat.le_trans (below_size (by repeat (first | (with_reducible first | exact HB.out | apply below_alloc | apply pw_below_drewN | apply below_drew1 | refine below_set ?_ GE407.out) | exact HB.out))) hk)), Kd.freshB (g := gb407) (o := .cells #[.int .i64 a2_0, .string a2_1, .string a2_2, .string a2_3, .slice A2_4 l2_4.length c2_4] 25 (0, 0)) (by (with_reducible repeat (first | refine blk_drewN ?_ _ | refine blk_drew ?_ | refine blk_alloc ?_ _)); exact BK407.out) k_ hk⟩)); (case aO => exact (by (with_reducible repeat (first | apply Kd.N_alloc | apply Kd.N_drewN | apply Kd.N_drew)); exact HO416.out)); (case aS => exact (below_size (by repeat (first | (with_reducible first | exact HB.out | apply below_alloc | apply pw_below_drewN | apply below_drew1 | refine below_set ?_ GE407.out) | exact HB.out)))); (case aL => have := LMc13.out; omega); intro v418 w27 ho hb hg hat; rw [← Ny417.out] at ho; have n0_ := Aside0.mk (Kd.V_afterv (ok := (fun k_ => ((P0_ k_ ∨ P1_ k_ ∨ P2_4_ k_) ∨ w.heap.size ≤ k_) ∧ k_ ≠ gb407)) (by (with_reducible repeat (first | apply Kd.V_alloc | apply Kd.V_drewN | apply Kd.V_drew)); exact HO_0.out) hg hat); have n1_ := Aside0.mk (Kd.V_afterv (ok := (fun k_ => ((P0_ k_ ∨ P1_ k_ ∨ P2_4_ k_) ∨ w.heap.size ≤ k_) ∧ k_ ≠ gb407)) (by (with_reducible repeat (first | apply Kd.V_alloc | apply Kd.V_drewN | apply Kd.V_drew)); exact HO_1.out) hg hat); have n2_ := Aside0.mk (Kd.V_afterv (ok := (fun k_ => ((P0_ k_ ∨ P1_ k_ ∨ P2_4_ k_) ∨ w.heap.size ≤ k_) ∧ k_ ≠ gb407)) (by (with_reducible repeat (first | apply Kd.V_alloc | apply Kd.V_drewN | apply Kd.V_drew)); exact HO_408004.out) hg hat); have n3_ := Aside0.mk (blk_grown (g := gb407) (o := .cells #[.int .i64 a2_0, .string a2_1, .string a2_2, .string a2_3, .slice A2_4 l2_4.length c2_4] 25 (0, 0)) (by (with_reducible repeat (first | refine blk_drewN ?_ _ | refine blk_drew ?_ | refine blk_alloc ?_ _)); exact BK407.out) hg (Kd.N_away HO416.out (fun _ hk => hk.2))); have n4_ := Aside0.mk (hb); have n5_ := Aside0.mk (ho); clear HO_0; clear HO_1; clear HO_408004; clear BK407; clear HB; clear HO416; have HO_0 := n0_; have HO_1 := n1_; have HO_408004 := n2_; have BK407 := n3_; have HB := n4_; have HO419 := n5_; clear n0_ n1_ n2_ n3_ n4_ n5_; clear ho hb hg hat; obtain ⟨Ao28, co28, eo28⟩ := Kd.N_slice HO419.out; subst eo28))
                  have n0_ := Aside0.mk (Kd.V_drew HO_0.out)
                  have n1_ := Aside0.mk (Kd.V_drew HO_1.out)
                  have n2_ := Aside0.mk (Kd.V_drew HO_408004.out)
                  have n3_ := Aside0.mk (Kd.N_drew HO419.out)
                  have n4_ := Aside0.mk (blk_drew BK407.out)
                  have n5_ := Aside0.mk (below_drew1 HB.out)
                  clear HO_0
                  clear HO_1
                  clear HO_408004
                  clear HO419
                  clear BK407
                  clear HB
                  have HO_0 := n0_
                  have HO_1 := n1_
                  have HO_408004 := n2_
                  have HO419 := n3_
                  have BK407 := n4_
                  have HB := n5_
                  clear n0_ n1_ n2_ n3_ n4_ n5_
                  refine start_ (n := 27) (S := fun w' => w'.cell? ⟨gb407, 0, none⟩ = some (.int .i64 a2_0) ∧ w'.cell? ⟨gb407, 1, none⟩ = some (.string a2_1) ∧ w'.cell? ⟨gb407, 2, none⟩ = some (.string a2_2) ∧ w'.cell? ⟨gb407, 3, none⟩ = some (.string a2_3) ∧ w'.cell? ⟨gb407, 4, none⟩ = some (.slice A2_4 l2_4.length c2_4)) (ds := []) #[false, false, false, false, false, false, false, false, false, false, false, false, false, false, false, false, false, false, false, false, false, false, false, false, false, false, false] (by kernel_rfl) rfl rfl ⟨(blk_cell BK407.out 0).trans rfl, (blk_cell BK407.out 1).trans rfl, (blk_cell BK407.out 2).trans rfl, (blk_cell BK407.out 3).trans rfl, (blk_cell BK407.out 4).trans rfl⟩ (fun hHeld => ?_); refine with_tabW reredoslaw08_TreeSame.tab6 reredoslaw08_TreeSame.bits6 (fun HT_ HW_ => ?_)
                  generalize w27.drew = w29 at HO_0 HO_1 HO_408004 HO419 BK407 HB hHeld ⊢
                  refine pure_ (i := 0) (N := some 26) (v := ?_) (a' := ?_) #[true, false, false, false, false, false, false, false, false, false, false, false, false, false, false, false, false, false, false, false, false, false, false, false, false, false, false] rfl rfl (any_of HT_.out (by kernel_rfl)) (fun _ _ _ h => h) (Or.inl ⟨by rfl, ?_⟩) ?_ ?_
                  rotate_left
                  · intro w'
                    go_simp
                    with_reducible rfl
                  rotate_left
                  · simp only [Act.put, List.setIfInBounds_toArray, List.set_cons_zero, List.set_cons_succ, i64_w, i32_w]
                    rfl
                  refine pure_ (i := 1) (N := some 27) (v := ?_) (a' := ?_) #[true, true, false, false, false, false, false, false, false, false, false, false, false, false, false, false, false, false, false, false, false, false, false, false, false, false, false] rfl rfl (any_of HT_.out (by kernel_rfl)) (fun _ _ _ h => h) (Or.inl ⟨by rfl, ?_⟩) ?_ ?_
                  rotate_left
                  · intro w'
                    go_simp
                    with_reducible rfl
                  rotate_left
                  · simp only [Act.put, List.setIfInBounds_toArray, List.set_cons_zero, List.set_cons_succ, i64_w, i32_w]
                    rfl
                  refine pure_ (i := 2) (N := some 28) (v := ?_) (a' := ?_) #[true, true, true, false, false, false, false, false, false, false, false, false, false, false, false, false, false, false, false, false, false, false, false, false, false, false, false] rfl rfl (any_of HT_.out (by kernel_rfl)) (fun _ _ _ h => h) (Or.inl ⟨by rfl, ?_⟩) ?_ ?_
                  rotate_left
                  · intro w'
                    go_simp
                    with_reducible rfl
                  rotate_left
                  · simp only [Act.put, List.setIfInBounds_toArray, List.set_cons_zero, List.set_cons_succ, i64_w, i32_w]
                    rfl
                  refine pure_ (i := 3) (N := some 29) (v := ?_) (a' := ?_) #[true, true, true, true, false, false, false, false, false, false, false, false, false, false, false, false, false, false, false, false, false, false, false, false, false, false, false] rfl rfl (any_of HT_.out (by kernel_rfl)) (fun _ _ _ h => h) (Or.inl ⟨by rfl, ?_⟩) ?_ ?_
                  rotate_left
                  · intro w'
                    go_simp
                    with_reducible rfl
                  rotate_left
                  · simp only [Act.put, List.setIfInBounds_toArray, List.set_cons_zero, List.set_cons_succ, i64_w, i32_w]
                    rfl
                  refine pure_ (i := 5) (N := some 31) (v := ?_) (a' := ?_) #[true, true, true, true, false, true, false, false, false, false, false, false, false, false, false, false, false, false, false, false, false, false, false, false, false, false, false] rfl rfl (any_of HT_.out (by kernel_rfl)) (fun _ _ _ h => h) (Or.inl ⟨by rfl, ?_⟩) ?_ ?_
                  rotate_left
                  · intro w'
                    go_simp
                    with_reducible rfl
                  rotate_left
                  · simp only [Act.put, List.setIfInBounds_toArray, List.set_cons_zero, List.set_cons_succ, i64_w, i32_w]
                    rfl
                  refine pure_ (i := 6) (N := some 32) (v := ?_) (a' := ?_) #[true, true, true, true, false, true, true, false, false, false, false, false, false, false, false, false, false, false, false, false, false, false, false, false, false, false, false] rfl rfl (any_of HT_.out (by kernel_rfl)) (fun _ _ _ h => h) (Or.inl ⟨by rfl, ?_⟩) ?_ ?_
                  rotate_left
                  · intro w'
                    go_simp
                    with_reducible rfl
                  rotate_left
                  · simp only [Act.put, List.setIfInBounds_toArray, List.set_cons_zero, List.set_cons_succ, i64_w, i32_w]
                    rfl
                  refine one_ (i := 4) (N := some 30) #[true, true, true, true, true, true, true, false, false, false, false, false, false, false, false, false, false, false, false, false, false, false, false, false, false, false, false] rfl rfl (one_of HT_.out (by kernel_rfl)) (by decide) (fun K hK => ?_)
                  refine goes_ Try.func30 (by kernel_rfl) rfl #[.slice A0 l0.length c0, .slice A1 l1.length c1] (by rfl) rfl rfl (by (try simp only [List.map_toArray, List.map_cons, List.map_nil]); first | done | rfl | (simp only [List.length_drop, List.length_take]; rfl)) ?_
                  with_reducible refine (tree_Same.calls kj4 _ _ l0 _ _ l1 t420 _ ?side1 ?side2 ?side3 ?side4 A15.out).mono ?_
                  (case side1 => repeat (first | exact (Kd.V_reads' HO_0.out).2.2 | (with_reducible refine Kd.C_alloc ?_ _) | (with_reducible refine Kd.C_drewN ?_ _) | (with_reducible refine Kd.C_drew ?_)))
                  (case side2 => exact (Kd.V_reads' HO_0.out).2.1)
                  (case side3 => repeat (first | exact (Kd.V_reads' HO_1.out).2.2 | (with_reducible refine Kd.C_alloc ?_ _) | (with_reducible refine Kd.C_drewN ?_ _) | (with_reducible refine Kd.C_drew ?_)))
                  (case side4 => exact (Kd.V_reads' HO_1.out).2.1)
                  rintro e w30 ⟨rfl, hb⟩
                  refine ⟨_, rfl, ?_⟩
                  have n0_ := Aside0.mk (Kd.V_below (by (with_reducible repeat (first | apply Kd.V_alloc | apply Kd.V_drewN | apply Kd.V_drew)); exact HO_0.out) hb)
                  have n1_ := Aside0.mk (Kd.V_below (by (with_reducible repeat (first | apply Kd.V_alloc | apply Kd.V_drewN | apply Kd.V_drew)); exact HO_1.out) hb)
                  have n2_ := Aside0.mk (Kd.V_below (by (with_reducible repeat (first | apply Kd.V_alloc | apply Kd.V_drewN | apply Kd.V_drew)); exact HO_408004.out) hb)
                  have n3_ := Aside0.mk (Kd.N_below (by (with_reducible repeat (first | apply Kd.N_alloc | apply Kd.N_drewN | apply Kd.N_drew)); exact HO419.out) hb)
                  have n4_ := Aside0.mk (blk_below (g := gb407) (o := .cells #[.int .i64 a2_0, .string a2_1, .string a2_2, .string a2_3, .slice A2_4 l2_4.length c2_4] 25 (0, 0)) (by (with_reducible repeat (first | refine blk_drewN ?_ _ | refine blk_drew ?_ | refine blk_alloc ?_ _)); exact BK407.out) hb)
                  have n5_ := Aside0.mk (below_step (by repeat (first | (with_reducible first | exact HB.out | apply below_alloc | apply pw_below_drewN | apply below_drew1 | refine below_set ?_ GE407.out) | exact HB.out)) hb)
                  clear HO_0
                  clear HO_1
                  clear HO_408004
                  clear HO419
                  clear BK407
                  clear HB
                  have HO_0 := n0_
                  have HO_1 := n1_
                  have HO_408004 := n2_
                  have HO419 := n3_
                  have BK407 := n4_
                  have HB := n5_
                  clear n0_ n1_ n2_ n3_ n4_ n5_
                  (try clear hb)
                  (try clear hb2)
                  (try clear hk)
                  (try clear hi)
                  refine hK.out _ _ ⟨(blk_cell BK407.out 0).trans rfl, (blk_cell BK407.out 1).trans rfl, (blk_cell BK407.out 2).trans rfl, (blk_cell BK407.out 3).trans rfl, (blk_cell BK407.out 4).trans rfl⟩ (fun hHeld => ?_)
                  clear hK K
                  refine norm_ (a' := ?_) ?_ ?_
                  rotate_left
                  · show Act.put _ (some 30) _ = _
                    simp only [Act.put, List.setIfInBounds_toArray, List.set_cons_zero, List.set_cons_succ, i64_w, i32_w]
                    rfl
                  refine one_ (i := 7) (N := some 33) #[true, true, true, true, true, true, true, true, false, false, false, false, false, false, false, false, false, false, false, false, false, false, false, false, false, false, false] rfl rfl (one_of HT_.out (by kernel_rfl)) (by decide) (fun K hK => ?_)
                  refine goes_ Try.func31 (by kernel_rfl) rfl #[.slice A0 l0.length c0, .slice A1 l1.length c1] (by rfl) rfl rfl (by (try simp only [List.map_toArray, List.map_cons, List.map_nil]); first | done | rfl | (simp only [List.length_drop, List.length_take]; rfl)) ?_
                  with_reducible refine (reredosref08_Same.calls kj4 _ _ l0 _ _ l1 t421 _ ?side1 ?side2 ?side3 ?side4 A16.out).mono ?_
                  (case side1 => repeat (first | exact (Kd.V_reads' HO_0.out).2.2 | (with_reducible refine Kd.C_alloc ?_ _) | (with_reducible refine Kd.C_drewN ?_ _) | (with_reducible refine Kd.C_drew ?_)))
                  (case side2 => exact (Kd.V_reads' HO_0.out).2.1)
                  (case side3 => repeat (first | exact (Kd.V_reads' HO_1.out).2.2 | (with_reducible refine Kd.C_alloc ?_ _) | (with_reducible refine Kd.C_drewN ?_ _) | (with_reducible refine Kd.C_drew ?_)))
                  (case side4 => exact (Kd.V_reads' HO_1.out).2.1)
                  rintro e w' ⟨rfl, ⟨nd, rfl⟩⟩
                  refine ⟨_, rfl, ?_⟩
                  refine hK.out _ _ ⟨(blk_cell BK407.out 0).trans rfl, (blk_cell BK407.out 1).trans rfl, (blk_cell BK407.out 2).trans rfl, (blk_cell BK407.out 3).trans rfl, (blk_cell BK407.out 4).trans rfl⟩ (fun hHeld => ?_)
                  clear hK K
                  refine norm_ (a' := ?_) ?_ ?_
                  rotate_left
                  · show Act.put _ (some 33) _ = _
                    simp only [Act.put, List.setIfInBounds_toArray, List.set_cons_zero, List.set_cons_succ, i64_w, i32_w]
                    rfl
                  refine pure_ (i := 8) (N := some 34) (v := ?_) (a' := ?_) #[true, true, true, true, true, true, true, true, true, false, false, false, false, false, false, false, false, false, false, false, false, false, false, false, false, false, false] rfl rfl (any_of HT_.out (by kernel_rfl)) (fun _ _ _ h => h) (Or.inl ⟨by rfl, ?_⟩) ?_ ?_
                  rotate_left
                  · intro w'
                    go_simp
                    with_reducible rfl
                  rotate_left
                  · simp only [Act.put, List.setIfInBounds_toArray, List.set_cons_zero, List.set_cons_succ, i64_w, i32_w]
                    rfl
                  refine pure_ (i := 9) (N := some 35) (v := ?_) (a' := ?_) #[true, true, true, true, true, true, true, true, true, true, false, false, false, false, false, false, false, false, false, false, false, false, false, false, false, false, false] rfl rfl (any_of HT_.out (by kernel_rfl)) (fun _ _ _ h => h) (Or.inl ⟨by rfl, ?_⟩) ?_ ?_
                  rotate_left
                  · intro w'
                    go_simp
                    with_reducible rfl
                  rotate_left
                  · simp only [Act.put, List.setIfInBounds_toArray, List.set_cons_zero, List.set_cons_succ, i64_w, i32_w]
                    rfl
                  refine pure_ (i := 10) (N := some 36) (v := ?_) (a' := ?_) #[true, true, true, true, true, true, true, true, true, true, true, false, false, false, false, false, false, false, false, false, false, false, false, false, false, false, false] rfl rfl (any_of HT_.out (by kernel_rfl)) (fun _ _ _ h => h) (Or.inl ⟨by rfl, ?_⟩) ?_ ?_
                  rotate_left
                  · intro w'
                    go_simp
                    with_reducible rfl
                  rotate_left
                  · simp only [Act.put, List.setIfInBounds_toArray, List.set_cons_zero, List.set_cons_succ, i64_w, i32_w]
                    rfl
                  refine pure_ (i := 12) (N := some 38) (v := ?_) (a' := ?_) #[true, true, true, true, true, true, true, true, true, true, true, false, true, false, false, false, false, false, false, false, false, false, false, false, false, false, false] rfl rfl (any_of HT_.out (by kernel_rfl)) (fun _ _ _ h => h) (Or.inl ⟨by rfl, ?_⟩) ?_ ?_
                  rotate_left
                  · intro w'
                    go_simp
                    with_reducible rfl
                  rotate_left
                  · simp only [Act.put, List.setIfInBounds_toArray, List.set_cons_zero, List.set_cons_succ, i64_w, i32_w]
                    rfl
                  refine pure_ (i := 13) (N := some 39) (v := ?_) (a' := ?_) #[true, true, true, true, true, true, true, true, true, true, true, false, true, true, false, false, false, false, false, false, false, false, false, false, false, false, false] rfl rfl (any_of HT_.out (by kernel_rfl)) (fun _ _ _ h => h) (Or.inl ⟨by rfl, ?_⟩) ?_ ?_
                  rotate_left
                  · intro w'
                    go_simp
                    with_reducible rfl
                  rotate_left
                  · simp only [Act.put, List.setIfInBounds_toArray, List.set_cons_zero, List.set_cons_succ, i64_w, i32_w]
                    rfl
                  refine pure_ (i := 16) (N := some 42) (v := ?_) (a' := ?_) #[true, true, true, true, true, true, true, true, true, true, true, false, true, true, false, false, true, false, false, false, false, false, false, false, false, false, false] rfl rfl (any_of HT_.out (by kernel_rfl)) (fun _ _ _ h => h) (Or.inl ⟨by rfl, ?_⟩) ?_ ?_
                  rotate_left
                  · intro w'
                    go_simp
                    with_reducible rfl
                  rotate_left
                  · simp only [Act.put, List.setIfInBounds_toArray, List.set_cons_zero, List.set_cons_succ, i64_w, i32_w]
                    rfl
                  refine take_ (i := 11) (N := some 37) (v := ?_) (a' := ?_) #[true, true, true, true, true, true, true, true, true, true, true, true, true, true, false, false, true, false, false, false, false, false, false, false, false, false, false] rfl rfl (take_ofW HT_.out HW_.out (by kernel_rfl)) (fun _ _ _ h => h) (Or.inl ⟨by rfl, ?_⟩) hHeld ?_ ?_
                  rotate_left
                  · rintro w' ⟨s0, s1, s2, s3, s4⟩
                    go_simp
                    with_reducible rfl
                  rotate_left
                  · simp only [Act.put, List.setIfInBounds_toArray, List.set_cons_zero, List.set_cons_succ, i64_w, i32_w]
                    rfl
                  refine one_ (i := 14) (N := some 40) #[true, true, true, true, true, true, true, true, true, true, true, true, true, true, true, false, true, false, false, false, false, false, false, false, false, false, false] rfl rfl (one_of HT_.out (by kernel_rfl)) (by decide) (fun K hK => ?_)
                  refine Kd.N_lit_step (Kd.slice 25 k25) _ 22 ?hg (N' := 40) ?hd (xs := ([l0, l1] : List (List (S25)))) (inner := [.slice A0 l0.length c0, .slice A1 l1.length c1]) (ok := (fun k_ => ((P0_ k_ ∨ P1_ k_ ∨ P2_4_ k_) ∨ w.heap.size ≤ k_) ∧ some k_ ≠ (.slice Ao28 y417.length co28 : Value).ownBlock ∧ k_ ≠ gb407)) (okp := (fun k_ => ((P0_ k_ ∨ P1_ k_ ∨ P2_4_ k_) ∨ w.heap.size ≤ k_) ∧ some k_ ≠ (.slice Ao28 y417.length co28 : Value).ownBlock ∧ k_ ≠ gb407)) ?hr ?hp (fun _ hk => hk) ((show ∀ k_, w30.heap.size ≤ k_ → (fun k_ => ((P0_ k_ ∨ P1_ k_ ∨ P2_4_ k_) ∨ w.heap.size ≤ k_) ∧ some k_ ≠ (.slice Ao28 y417.length co28 : Value).ownBlock ∧ k_ ≠ gb407) k_ from fun k_ hk => ⟨(.inr (Nat.le_trans (below_size (by repeat (first | (with_reducible first | exact HB.out | apply below_alloc | apply pw_below_drewN | apply below_drew1 | refine below_set ?_ GE407.out) | exact HB.out))) hk)), Kd.fresh' (Kd.N_lt (by (with_reducible repeat (first | apply Kd.N_alloc | apply Kd.N_drewN | apply Kd.N_drew)); exact HO419.out)) k_ hk, Kd.freshB (g := gb407) (o := .cells #[.int .i64 a2_0, .string a2_1, .string a2_2, .string a2_3, .slice A2_4 l2_4.length c2_4] 25 (0, 0)) (by (with_reducible repeat (first | refine blk_drewN ?_ _ | refine blk_drew ?_ | refine blk_alloc ?_ _)); exact BK407.out) k_ hk⟩) _ (Nat.le_refl _)) (Below.refl _ _) (Nat.le_refl _) (by simp) ?_; (case hd => rfl); (case hg => rfl); (case hr => first | (go_simp; done) | (go_simp; rfl)); (case hp => exact (Reps.one (show Kd.FK (Kd.slice 25 k25) _ _ l0 [.slice A0 l0.length c0] from (Kd.FK_slice_mk (Kd.V_reads' (Kd.V_mono (ok' := (fun k_ => ((P0_ k_ ∨ P1_ k_ ∨ P2_4_ k_) ∨ w.heap.size ≤ k_) ∧ some k_ ≠ (.slice Ao28 y417.length co28 : Value).ownBlock ∧ k_ ≠ gb407)) (HO_0.out) (fun k_ hk => ⟨hk.1.1, ⟨hk.2, hk.1.2⟩⟩))).2.1 (Kd.V_F (base := w.heap.size) (e := 25) (Kd.V_mono (base := w.heap.size) (e := 25) (ok' := (fun k_ => ((P0_ k_ ∨ P1_ k_ ∨ P2_4_ k_) ∨ w.heap.size ≤ k_) ∧ some k_ ≠ (.slice Ao28 y417.length co28 : Value).ownBlock ∧ k_ ≠ gb407)) (HO_0.out) (fun k_ hk => ⟨hk.1.1, ⟨hk.2, hk.1.2⟩⟩))))) (Reps.one (show Kd.FK (Kd.slice 25 k25) _ _ l1 [.slice A1 l1.length c1] from (Kd.FK_slice_mk (Kd.V_reads' (Kd.V_mono (ok' := (fun k_ => ((P0_ k_ ∨ P1_ k_ ∨ P2_4_ k_) ∨ w.heap.size ≤ k_) ∧ some k_ ≠ (.slice Ao28 y417.length co28 : Value).ownBlock ∧ k_ ≠ gb407)) (HO_1.out) (fun k_ hk => ⟨hk.1.1, ⟨hk.2, hk.1.2⟩⟩))).2.1 (Kd.V_F (base := w.heap.size) (e := 25) (Kd.V_mono (base := w.heap.size) (e := 25) (ok' := (fun k_ => ((P0_ k_ ∨ P1_ k_ ∨ P2_4_ k_) ∨ w.heap.size ≤ k_) ∧ some k_ ≠ (.slice Ao28 y417.length co28 : Value).ownBlock ∧ k_ ≠ gb407)) (HO_1.out) (fun k_ hk => ⟨hk.1.1, ⟨hk.2, hk.1.2⟩⟩))))) (Reps.none _ _))))
                  intro v423 w31 ho32 hb hg_ hnew_
                  clear hg_ hnew_
                  (first | rw [← Ny422.out] at ho32 | (simp only [Int.reduceToNat] at ho32; rw [← Ny422.out] at ho32))
                  have n0_ := Aside0.mk (Kd.V_elder' (by (with_reducible repeat (first | apply Kd.V_alloc | apply Kd.V_drewN | apply Kd.V_drew)); exact HO_0.out) (Kd.N_base ho32) hb)
                  have n1_ := Aside0.mk (Kd.V_elder' (by (with_reducible repeat (first | apply Kd.V_alloc | apply Kd.V_drewN | apply Kd.V_drew)); exact HO_1.out) (Kd.N_base ho32) hb)
                  have n2_ := Aside0.mk (Kd.V_elder' (by (with_reducible repeat (first | apply Kd.V_alloc | apply Kd.V_drewN | apply Kd.V_drew)); exact HO_408004.out) (Kd.N_base ho32) hb)
                  have n3_ := Aside0.mk (Kd.N_elder' (by (with_reducible repeat (first | apply Kd.N_alloc | apply Kd.N_drewN | apply Kd.N_drew)); exact HO419.out) (Kd.N_base ho32) hb)
                  have n4_ := Aside0.mk (Kd.N_lower ho32 (below_size (by repeat (first | (with_reducible first | exact HB.out | apply below_alloc | apply pw_below_drewN | apply below_drew1 | refine below_set ?_ GE407.out) | exact HB.out))))
                  have n5_ := Aside0.mk (blk_below (g := gb407) (o := .cells #[.int .i64 a2_0, .string a2_1, .string a2_2, .string a2_3, .slice A2_4 l2_4.length c2_4] 25 (0, 0)) (by (with_reducible repeat (first | refine blk_drewN ?_ _ | refine blk_drew ?_ | refine blk_alloc ?_ _)); exact BK407.out) hb)
                  have n6_ := Aside0.mk (below_step (by repeat (first | (with_reducible first | exact HB.out | apply below_alloc | apply pw_below_drewN | apply below_drew1 | refine below_set ?_ GE407.out) | exact HB.out)) hb)
                  clear HO_0
                  clear HO_1
                  clear HO_408004
                  clear HO419
                  clear BK407
                  clear HB
                  have HO_0 := n0_
                  have HO_1 := n1_
                  have HO_408004 := n2_
                  have HO419 := n3_
                  have HO424 := n4_
                  have BK407 := n5_
                  have HB := n6_
                  clear n0_ n1_ n2_ n3_ n4_ n5_ n6_
                  clear hb ho32
                  obtain ⟨Ao33, co33, eo33⟩ := Kd.N_slice HO424.out
                  (first | subst eo33 | (injection eo33 with f1_ f2_ f3_; have f4_ := f1_.symm; have f5_ := f3_.symm; clear f1_ f2_ f3_; subst f4_; subst f5_))
                  refine hK.out _ _ ⟨(blk_cell BK407.out 0).trans rfl, (blk_cell BK407.out 1).trans rfl, (blk_cell BK407.out 2).trans rfl, (blk_cell BK407.out 3).trans rfl, (blk_cell BK407.out 4).trans rfl⟩ (fun hHeld => ?_)
                  clear hK K
                  refine norm_ (a' := ?_) ?_ ?_
                  rotate_left
                  · show Act.put _ (some 40) _ = _
                    simp only [Act.put, List.setIfInBounds_toArray, List.set_cons_zero, List.set_cons_succ, i64_w, i32_w]
                    rfl
                  refine one_ (i := 15) (N := some 41) #[true, true, true, true, true, true, true, true, true, true, true, true, true, true, true, true, true, false, false, false, false, false, false, false, false, false, false] rfl rfl (one_of HT_.out (by kernel_rfl)) (by decide) (fun K hK => ?_)
                  refine goes_ Try.func32 (by kernel_rfl) rfl #[.agg #[.int .i64 a2_0, .string a2_1, .string a2_2, .string a2_3, .slice A2_4 l2_4.length c2_4], .slice Ao33 y422.length co33] (by rfl) rfl rfl (by (try simp only [List.map_toArray, List.map_cons, List.map_nil]); first | done | rfl | (simp only [List.length_drop, List.length_take]; rfl)) ?_
                  with_reducible refine (tree_Node.calls kj4 a2_0 a2_1 a2_2 a2_3 (fun k_ => (((((P0_ k_ ∨ P1_ k_ ∨ P2_4_ k_) ∨ w.heap.size ≤ k_) ∧ k_ ≠ gb407) ∧ some k_ ≠ (.slice Ao28 y417.length co28 : Value).ownBlock) ∧ some k_ ≠ (.slice Ao33 y422.length co33 : Value).ownBlock)) _ _ l2_4 (fun k_ => (((P0_ k_ ∨ P1_ k_ ∨ P2_4_ k_) ∨ w.heap.size ≤ k_) ∧ (some k_ ≠ (.slice Ao28 y417.length co28 : Value).ownBlock ∧ k_ ≠ gb407))) _ _ y422 t425 _ ?side1 ?side2 A18.out).mono ?_
                  (case side1 => exact HO_408004.out)
                  (case side2 => exact Kd.N_V (HO424.out))
                  rintro e w34 ⟨v426, rfl, ho0, hb⟩
                  refine ⟨_, rfl, ?_⟩
                  have n0_ := Aside0.mk (Kd.V_elder' (by (with_reducible repeat (first | apply Kd.V_alloc | apply Kd.V_drewN | apply Kd.V_drew)); exact HO_0.out) (Kd.N_base ho0) hb)
                  have n1_ := Aside0.mk (Kd.V_elder' (by (with_reducible repeat (first | apply Kd.V_alloc | apply Kd.V_drewN | apply Kd.V_drew)); exact HO_1.out) (Kd.N_base ho0) hb)
                  have n2_ := Aside0.mk (Kd.V_elder' (by (with_reducible repeat (first | apply Kd.V_alloc | apply Kd.V_drewN | apply Kd.V_drew)); exact HO_408004.out) (Kd.N_base ho0) hb)
                  have n3_ := Aside0.mk (Kd.N_elder' (by (with_reducible repeat (first | apply Kd.N_alloc | apply Kd.N_drewN | apply Kd.N_drew)); exact HO419.out) (Kd.N_base ho0) hb)
                  have n4_ := Aside0.mk (Kd.N_elder' (by (with_reducible repeat (first | apply Kd.N_alloc | apply Kd.N_drewN | apply Kd.N_drew)); exact HO424.out) (Kd.N_base ho0) hb)
                  have n5_ := Aside0.mk (Kd.N_lower (Kd.N_mono (ok' := fun k_ => ((P0_ k_ ∨ P1_ k_ ∨ P2_4_ k_) ∨ w.heap.size ≤ k_) ∧ some k_ ≠ (.slice Ao28 y417.length co28 : Value).ownBlock ∧ k_ ≠ gb407) ho0 (fun k_ hk_ => ⟨Or.elim hk_ (fun hs_ => Or.elim hs_ (fun hs_ => hs_.1.1.1) (fun hs_ => hs_.1)) (fun hn_ => (.inr (Nat.le_trans (below_size (by repeat (first | (with_reducible first | exact HB.out | apply below_alloc | apply pw_below_drewN | apply below_drew1 | refine below_set ?_ GE407.out) | exact HB.out))) hn_))), Or.elim hk_ (fun hs_ => Or.elim hs_ (fun hs_ => hs_.1.2) (fun hs_ => hs_.2.1)) (fun hn_ => (Kd.fresh' (Kd.N_lt (by (with_reducible repeat (first | apply Kd.N_alloc | apply Kd.N_drewN | apply Kd.N_drew)); exact HO419.out)) k_ hn_)), Or.elim hk_ (fun hs_ => Or.elim hs_ (fun hs_ => hs_.1.1.2) (fun hs_ => hs_.2.2)) (fun hn_ => (Kd.freshB (g := gb407) (o := .cells #[.int .i64 a2_0, .string a2_1, .string a2_2, .string a2_3, .slice A2_4 l2_4.length c2_4] 25 (0, 0)) (by (with_reducible repeat (first | refine blk_drewN ?_ _ | refine blk_drew ?_ | refine blk_alloc ?_ _)); exact BK407.out) k_ hn_))⟩)) (below_size (by repeat (first | (with_reducible first | exact HB.out | apply below_alloc | apply pw_below_drewN | apply below_drew1 | refine below_set ?_ GE407.out) | exact HB.out))))
                  have n6_ := Aside0.mk (blk_below (g := gb407) (o := .cells #[.int .i64 a2_0, .string a2_1, .string a2_2, .string a2_3, .slice A2_4 l2_4.length c2_4] 25 (0, 0)) (by (with_reducible repeat (first | refine blk_drewN ?_ _ | refine blk_drew ?_ | refine blk_alloc ?_ _)); exact BK407.out) hb)
                  have n7_ := Aside0.mk (below_step (by repeat (first | (with_reducible first | exact HB.out | apply below_alloc | apply pw_below_drewN | apply below_drew1 | refine below_set ?_ GE407.out) | exact HB.out)) hb)
                  clear HO_0
                  clear HO_1
                  clear HO_408004
                  clear HO419
                  clear HO424
                  clear BK407
                  clear HB
                  have HO_0 := n0_
                  have HO_1 := n1_
                  have HO_408004 := n2_
                  have HO419 := n3_
                  have HO424 := n4_
                  have HO427 := n5_
                  have BK407 := n6_
                  have HB := n7_
                  clear n0_ n1_ n2_ n3_ n4_ n5_ n6_ n7_
                  (try clear hb)
                  (try clear hb2)
                  (try clear hk)
                  (try clear hi)
                  (try clear ho0)
                  obtain ⟨Ao35, co35, eo35⟩ := Kd.N_slice HO427.out
                  (first | subst eo35 | (injection eo35 with f1_ f2_ f3_; have f4_ := f1_.symm; have f5_ := f3_.symm; clear f1_ f2_ f3_; subst f4_; subst f5_))
                  refine hK.out _ _ ⟨(blk_cell BK407.out 0).trans rfl, (blk_cell BK407.out 1).trans rfl, (blk_cell BK407.out 2).trans rfl, (blk_cell BK407.out 3).trans rfl, (blk_cell BK407.out 4).trans rfl⟩ (fun hHeld => ?_)
                  clear hK K
                  refine norm_ (a' := ?_) ?_ ?_
                  rotate_left
                  · show Act.put _ (some 41) _ = _
                    simp only [Act.put, List.setIfInBounds_toArray, List.set_cons_zero, List.set_cons_succ, i64_w, i32_w]
                    rfl
                  refine one_ (i := 17) (N := some 43) #[true, true, true, true, true, true, true, true, true, true, true, true, true, true, true, true, true, true, false, false, false, false, false, false, false, false, false] rfl rfl (one_of HT_.out (by kernel_rfl)) (by decide) (fun K hK => ?_)
                  refine goes_ Try.func31 (by kernel_rfl) rfl #[.slice Ao35 t425.length co35, .slice Ao28 y417.length co28] (by rfl) rfl rfl (by (try simp only [List.map_toArray, List.map_cons, List.map_nil]); first | done | rfl | (simp only [List.length_drop, List.length_take]; rfl)) ?_
                  with_reducible refine (reredosref08_Same.calls kj4 _ _ t425 _ _ y417 true _ ?side1 ?side2 ?side3 ?side4 A19.out).mono ?_
                  (case side1 => repeat (first | exact (Kd.N_reads' HO427.out).2.2 | (with_reducible refine Kd.C_alloc ?_ _) | (with_reducible refine Kd.C_drewN ?_ _) | (with_reducible refine Kd.C_drew ?_)))
                  (case side2 => exact (Kd.N_reads' HO427.out).2.1)
                  (case side3 => repeat (first | exact (Kd.N_reads' HO419.out).2.2 | (with_reducible refine Kd.C_alloc ?_ _) | (with_reducible refine Kd.C_drewN ?_ _) | (with_reducible refine Kd.C_drew ?_)))
                  (case side4 => exact (Kd.N_reads' HO419.out).2.1)
                  rintro e w' ⟨rfl, ⟨nd, rfl⟩⟩
                  refine ⟨_, rfl, ?_⟩
                  refine hK.out _ _ ⟨(blk_cell BK407.out 0).trans rfl, (blk_cell BK407.out 1).trans rfl, (blk_cell BK407.out 2).trans rfl, (blk_cell BK407.out 3).trans rfl, (blk_cell BK407.out 4).trans rfl⟩ (fun hHeld => ?_)
                  clear hK K
                  refine norm_ (a' := ?_) ?_ ?_
                  rotate_left
                  · show Act.put _ (some 43) _ = _
                    simp only [Act.put, List.setIfInBounds_toArray, List.set_cons_zero, List.set_cons_succ, i64_w, i32_w]
                    rfl
                  refine pure_ (i := 18) (N := some 44) (v := ?_) (a' := ?_) #[true, true, true, true, true, true, true, true, true, true, true, true, true, true, true, true, true, true, true, false, false, false, false, false, false, false, false] rfl rfl (any_of HT_.out (by kernel_rfl)) (fun _ _ _ h => h) (Or.inl ⟨by rfl, ?_⟩) ?_ ?_
                  rotate_left
                  · intro w'
                    go_simp
                    with_reducible rfl
                  rotate_left
                  · simp only [Act.put, List.setIfInBounds_toArray, List.set_cons_zero, List.set_cons_succ, i64_w, i32_w]
                    rfl
                  refine pure_ (i := 19) (N := some 45) (v := ?_) (a' := ?_) #[true, true, true, true, true, true, true, true, true, true, true, true, true, true, true, true, true, true, true, true, false, false, false, false, false, false, false] rfl rfl (any_of HT_.out (by kernel_rfl)) (fun _ _ _ h => h) (Or.inl ⟨by rfl, ?_⟩) ?_ ?_
                  rotate_left
                  · intro w'
                    go_simp
                    with_reducible rfl
                  rotate_left
                  · simp only [Act.put, List.setIfInBounds_toArray, List.set_cons_zero, List.set_cons_succ, i64_w, i32_w]
                    rfl
                  refine take_ (i := 20) (N := some 46) (v := ?_) (a' := ?_) #[true, true, true, true, true, true, true, true, true, true, true, true, true, true, true, true, true, true, true, true, true, false, false, false, false, false, false] rfl rfl (take_ofW HT_.out HW_.out (by kernel_rfl)) (fun _ _ _ h => h) (Or.inl ⟨by rfl, ?_⟩) hHeld ?_ ?_
                  rotate_left
                  · rintro w' ⟨s0, s1, s2, s3, s4⟩
                    go_simp
                    with_reducible rfl
                  rotate_left
                  · simp only [Act.put, List.setIfInBounds_toArray, List.set_cons_zero, List.set_cons_succ, i64_w, i32_w]
                    rfl
                  refine take_ (i := 22) (N := some 48) (v := ?_) (a' := ?_) #[true, true, true, true, true, true, true, true, true, true, true, true, true, true, true, true, true, true, true, true, true, false, true, false, false, false, false] rfl rfl (take_ofW HT_.out HW_.out (by kernel_rfl)) (fun _ _ _ h => h) (Or.inl ⟨by rfl, ?_⟩) hHeld ?_ ?_
                  rotate_left
                  · rintro w' ⟨s0, s1, s2, s3, s4⟩
                    go_simp
                    with_reducible rfl
                  rotate_left
                  · simp only [Act.put, List.setIfInBounds_toArray, List.set_cons_zero, List.set_cons_succ, i64_w, i32_w]
                    rfl
                  refine join_ (σ := Value × Value) 3 #[true, true, true, true, true, true, true, true, true, true, true, true, true, true, true, true, true, true, true, true, true, true, true, true, false, false, false] (fun s_ => [(47, s_.1), (49, s_.2)]) (fun s_ w' => (w'.cell? ⟨gb407, 0, none⟩ = some (.int .i64 a2_0) ∧ w'.cell? ⟨gb407, 1, none⟩ = some (.string a2_1) ∧ w'.cell? ⟨gb407, 2, none⟩ = some (.string a2_2) ∧ w'.cell? ⟨gb407, 3, none⟩ = some (.string a2_3) ∧ w'.cell? ⟨gb407, 4, none⟩ = some (.slice A2_4 l2_4.length c2_4)) ∧ (Kd.N k25 25 w' w.heap.size (fun k_ => ((P0_ k_ ∨ P1_ k_ ∨ P2_4_ k_) ∨ w.heap.size ≤ k_) ∧ some k_ ≠ (.slice Ao33 y422.length co33 : Value).ownBlock ∧ some k_ ≠ (.slice Ao35 t425.length co35 : Value).ownBlock ∧ some k_ ≠ (s_.1 : Value).ownBlock ∧ some k_ ≠ (s_.2 : Value).ownBlock ∧ k_ ≠ gb407) (.slice Ao28 y417.length co28) y417) ∧ (Kd.N (Kd.slice 25 k25) 22 w' w.heap.size (fun k_ => ((P0_ k_ ∨ P1_ k_ ∨ P2_4_ k_) ∨ w.heap.size ≤ k_) ∧ some k_ ≠ (.slice Ao28 y417.length co28 : Value).ownBlock ∧ some k_ ≠ (.slice Ao35 t425.length co35 : Value).ownBlock ∧ some k_ ≠ (s_.1 : Value).ownBlock ∧ some k_ ≠ (s_.2 : Value).ownBlock ∧ k_ ≠ gb407) (.slice Ao33 y422.length co33) y422) ∧ (Kd.N k25 25 w' w.heap.size (fun k_ => ((P0_ k_ ∨ P1_ k_ ∨ P2_4_ k_) ∨ w.heap.size ≤ k_) ∧ some k_ ≠ (.slice Ao28 y417.length co28 : Value).ownBlock ∧ some k_ ≠ (s_.1 : Value).ownBlock ∧ some k_ ≠ (s_.2 : Value).ownBlock ∧ k_ ≠ gb407) (.slice Ao35 t425.length co35) t425) ∧ (Kd.N k25 25 w' w.heap.size (fun k_ => ((P0_ k_ ∨ P1_ k_ ∨ P2_4_ k_) ∨ w.heap.size ≤ k_) ∧ some k_ ≠ (.slice Ao28 y417.length co28 : Value).ownBlock ∧ some k_ ≠ (.slice Ao33 y422.length co33 : Value).ownBlock ∧ some k_ ≠ (.slice Ao35 t425.length co35 : Value).ownBlock ∧ some k_ ≠ (s_.2 : Value).ownBlock ∧ k_ ≠ gb407) s_.1 t429) ∧ (Kd.N k25 25 w' w.heap.size (fun k_ => ((P0_ k_ ∨ P1_ k_ ∨ P2_4_ k_) ∨ w.heap.size ≤ k_) ∧ some k_ ≠ (.slice Ao28 y417.length co28 : Value).ownBlock ∧ some k_ ≠ (.slice Ao33 y422.length co33 : Value).ownBlock ∧ some k_ ≠ (.slice Ao35 t425.length co35 : Value).ownBlock ∧ some k_ ≠ (s_.1 : Value).ownBlock ∧ k_ ≠ gb407) s_.2 y432) ∧ (Kd.V k25 25 w' w.heap.size (fun k_ => ((P0_ k_ ∨ P1_ k_ ∨ P2_4_ k_) ∨ w.heap.size ≤ k_) ∧ some k_ ≠ (.slice Ao28 y417.length co28 : Value).ownBlock ∧ some k_ ≠ (.slice Ao33 y422.length co33 : Value).ownBlock ∧ some k_ ≠ (.slice Ao35 t425.length co35 : Value).ownBlock ∧ some k_ ≠ (s_.1 : Value).ownBlock ∧ some k_ ≠ (s_.2 : Value).ownBlock ∧ k_ ≠ gb407) (.slice A0 l0.length c0) l0) ∧ (Kd.V k25 25 w' w.heap.size (fun k_ => ((P0_ k_ ∨ P1_ k_ ∨ P2_4_ k_) ∨ w.heap.size ≤ k_) ∧ some k_ ≠ (.slice Ao28 y417.length co28 : Value).ownBlock ∧ some k_ ≠ (.slice Ao33 y422.length co33 : Value).ownBlock ∧ some k_ ≠ (.slice Ao35 t425.length co35 : Value).ownBlock ∧ some k_ ≠ (s_.1 : Value).ownBlock ∧ some k_ ≠ (s_.2 : Value).ownBlock ∧ k_ ≠ gb407) (.slice A1 l1.length c1) l1) ∧ (Kd.V Kd.string 9 w' w.heap.size (fun k_ => ((P0_ k_ ∨ P1_ k_ ∨ P2_4_ k_) ∨ w.heap.size ≤ k_) ∧ some k_ ≠ (.slice Ao28 y417.length co28 : Value).ownBlock ∧ some k_ ≠ (.slice Ao33 y422.length co33 : Value).ownBlock ∧ some k_ ≠ (.slice Ao35 t425.length co35 : Value).ownBlock ∧ some k_ ≠ (s_.1 : Value).ownBlock ∧ some k_ ≠ (s_.2 : Value).ownBlock ∧ k_ ≠ gb407) (.slice A2_4 l2_4.length c2_4) l2_4) ∧ (w'.heap[gb407]? = some (.cells #[.int .i64 a2_0, .string a2_1, .string a2_2, .string a2_3, .slice A2_4 l2_4.length c2_4] 25 (0, 0))) ∧ (Below w.heap.size w w')) ?_ ?_
                  rotate_left
                  · intro hCont
                    refine two_ (i := 21) (j := 23) (Ni := some 47) (Nj := some 49) #[true, true, true, true, true, true, true, true, true, true, true, true, true, true, true, true, true, true, true, true, true, true, true, false, false, false, false] #[true, true, true, true, true, true, true, true, true, true, true, true, true, true, true, true, true, true, true, true, true, false, true, true, false, false, false] rfl rfl rfl rfl (two_of HT_.out (by kernel_rfl)) (by decide) (by decide) (fun K hK => ?_) (fun K hK => ?_)
                    · skip
                      refine goes_ Try.func32 (by kernel_rfl) rfl #[.agg #[.int .i64 a2_0, .string a2_1, .string a2_2, .string a2_3, .slice A2_4 l2_4.length c2_4], .slice none 0 0] (by rfl) rfl rfl (by (try simp only [List.map_toArray, List.map_cons, List.map_nil]); first | done | rfl | (simp only [List.length_drop, List.length_take]; rfl)) ?_
                      refine (tree_Node.calls kj4 a2_0 a2_1 a2_2 a2_3 (fun k_ => ((((((P0_ k_ ∨ P1_ k_ ∨ P2_4_ k_) ∨ w.heap.size ≤ k_) ∧ k_ ≠ gb407) ∧ some k_ ≠ (.slice Ao28 y417.length co28 : Value).ownBlock) ∧ some k_ ≠ (.slice Ao33 y422.length co33 : Value).ownBlock) ∧ some k_ ≠ (.slice Ao35 t425.length co35 : Value).ownBlock)) _ _ l2_4 (fun k_ => False) _ _ ([] : List (List (S25))) t429 _ ?side1 ?side2 A21.out).mono ?_
                      (case side1 => exact HO_408004.out)
                      (case side2 => exact Kd.V_nil _ _ _ _ _)
                      rintro e w36 ⟨v430, rfl, ho0, hb⟩
                      refine ⟨_, rfl, ?_⟩
                      have n0_ := Aside0.mk (Kd.V_elder' (by (with_reducible repeat (first | apply Kd.V_alloc | apply Kd.V_drewN | apply Kd.V_drew)); exact HO_0.out) (Kd.N_base ho0) hb)
                      have n1_ := Aside0.mk (Kd.V_elder' (by (with_reducible repeat (first | apply Kd.V_alloc | apply Kd.V_drewN | apply Kd.V_drew)); exact HO_1.out) (Kd.N_base ho0) hb)
                      have n2_ := Aside0.mk (Kd.V_elder' (by (with_reducible repeat (first | apply Kd.V_alloc | apply Kd.V_drewN | apply Kd.V_drew)); exact HO_408004.out) (Kd.N_base ho0) hb)
                      have n3_ := Aside0.mk (Kd.N_elder' (by (with_reducible repeat (first | apply Kd.N_alloc | apply Kd.N_drewN | apply Kd.N_drew)); exact HO419.out) (Kd.N_base ho0) hb)
                      have n4_ := Aside0.mk (Kd.N_elder' (by (with_reducible repeat (first | apply Kd.N_alloc | apply Kd.N_drewN | apply Kd.N_drew)); exact HO424.out) (Kd.N_base ho0) hb)
                      have n5_ := Aside0.mk (Kd.N_elder' (by (with_reducible repeat (first | apply Kd.N_alloc | apply Kd.N_drewN | apply Kd.N_drew)); exact HO427.out) (Kd.N_base ho0) hb)
                      have n6_ := Aside0.mk (Kd.N_lower (Kd.N_mono (ok' := fun k_ => ((P0_ k_ ∨ P1_ k_ ∨ P2_4_ k_) ∨ w.heap.size ≤ k_) ∧ some k_ ≠ (.slice Ao28 y417.length co28 : Value).ownBlock ∧ some k_ ≠ (.slice Ao33 y422.length co33 : Value).ownBlock ∧ some k_ ≠ (.slice Ao35 t425.length co35 : Value).ownBlock ∧ k_ ≠ gb407) ho0 (fun k_ hk_ => ⟨Or.elim hk_ (fun hs_ => Or.elim hs_ (fun hs_ => hs_.1.1.1.1) (fun hs_ => (hs_).elim)) (fun hn_ => (.inr (Nat.le_trans (below_size (by repeat (first | (with_reducible first | exact HB.out | apply below_alloc | apply pw_below_drewN | apply below_drew1 | refine below_set ?_ GE407.out) | exact HB.out))) hn_))), Or.elim hk_ (fun hs_ => Or.elim hs_ (fun hs_ => hs_.1.1.2) (fun hs_ => (hs_).elim)) (fun hn_ => (Kd.fresh' (Kd.N_lt (by (with_reducible repeat (first | apply Kd.N_alloc | apply Kd.N_drewN | apply Kd.N_drew)); exact HO419.out)) k_ hn_)), Or.elim hk_ (fun hs_ => Or.elim hs_ (fun hs_ => hs_.1.2) (fun hs_ => (hs_).elim)) (fun hn_ => (Kd.fresh' (Kd.N_lt (by (with_reducible repeat (first | apply Kd.N_alloc | apply Kd.N_drewN | apply Kd.N_drew)); exact HO424.out)) k_ hn_)), Or.elim hk_ (fun hs_ => Or.elim hs_ (fun hs_ => hs_.2) (fun hs_ => (hs_).elim)) (fun hn_ => (Kd.fresh' (Kd.N_lt (by (with_reducible repeat (first | apply Kd.N_alloc | apply Kd.N_drewN | apply Kd.N_drew)); exact HO427.out)) k_ hn_)), Or.elim hk_ (fun hs_ => Or.elim hs_ (fun hs_ => hs_.1.1.1.2) (fun hs_ => (hs_).elim)) (fun hn_ => (Kd.freshB (g := gb407) (o := .cells #[.int .i64 a2_0, .string a2_1, .string a2_2, .string a2_3, .slice A2_4 l2_4.length c2_4] 25 (0, 0)) (by (with_reducible repeat (first | refine blk_drewN ?_ _ | refine blk_drew ?_ | refine blk_alloc ?_ _)); exact BK407.out) k_ hn_))⟩)) (below_size (by repeat (first | (with_reducible first | exact HB.out | apply below_alloc | apply pw_below_drewN | apply below_drew1 | refine below_set ?_ GE407.out) | exact HB.out))))
                      have n7_ := Aside0.mk (blk_below (g := gb407) (o := .cells #[.int .i64 a2_0, .string a2_1, .string a2_2, .string a2_3, .slice A2_4 l2_4.length c2_4] 25 (0, 0)) (by (with_reducible repeat (first | refine blk_drewN ?_ _ | refine blk_drew ?_ | refine blk_alloc ?_ _)); exact BK407.out) hb)
                      have n8_ := Aside0.mk (below_step (by repeat (first | (with_reducible first | exact HB.out | apply below_alloc | apply pw_below_drewN | apply below_drew1 | refine below_set ?_ GE407.out) | exact HB.out)) hb)
                      clear HO_0
                      clear HO_1
                      clear HO_408004
                      clear HO419
                      clear HO424
                      clear HO427
                      clear BK407
                      clear HB
                      have HO_0 := n0_
                      have HO_1 := n1_
                      have HO_408004 := n2_
                      have HO419 := n3_
                      have HO424 := n4_
                      have HO427 := n5_
                      have HO431 := n6_
                      have BK407 := n7_
                      have HB := n8_
                      clear n0_ n1_ n2_ n3_ n4_ n5_ n6_ n7_ n8_
                      (try clear hb)
                      (try clear hb2)
                      (try clear hk)
                      (try clear hi)
                      (try clear ho0)
                      refine hK.out _ _ ⟨(blk_cell BK407.out 0).trans rfl, (blk_cell BK407.out 1).trans rfl, (blk_cell BK407.out 2).trans rfl, (blk_cell BK407.out 3).trans rfl, (blk_cell BK407.out 4).trans rfl⟩ (fun hHeld => ?_)
                      clear hK K
                      refine norm_ (a' := ?_) ?_ ?_
                      rotate_left
                      · show Act.put _ (some 47) _ = _
                        simp only [Act.put, List.setIfInBounds_toArray, List.set_cons_zero, List.set_cons_succ, i64_w, i32_w]
                        rfl
                      refine one_ (i := 23) (N := some 49) #[true, true, true, true, true, true, true, true, true, true, true, true, true, true, true, true, true, true, true, true, true, true, true, true, false, false, false] rfl rfl (one_of HT_.out (by kernel_rfl)) (by decide) (fun K hK => ?_)
                      refine Kd.N_lit_step k25 _ 25 ?hg (N' := 49) ?hd (xs := ([(⟨a2_0, a2_1, a2_2, a2_3, l2_4⟩ : S25)] : List (S25))) (inner := [.int .i64 a2_0, .string a2_1, .string a2_2, .string a2_3, .slice A2_4 l2_4.length c2_4]) (ok := (fun k_ => ((P0_ k_ ∨ P1_ k_ ∨ P2_4_ k_) ∨ w.heap.size ≤ k_) ∧ some k_ ≠ (.slice Ao28 y417.length co28 : Value).ownBlock ∧ some k_ ≠ (.slice Ao33 y422.length co33 : Value).ownBlock ∧ some k_ ≠ (.slice Ao35 t425.length co35 : Value).ownBlock ∧ some k_ ≠ (v430 : Value).ownBlock ∧ k_ ≠ gb407)) (okp := (fun k_ => ((P0_ k_ ∨ P1_ k_ ∨ P2_4_ k_) ∨ w.heap.size ≤ k_) ∧ some k_ ≠ (.slice Ao28 y417.length co28 : Value).ownBlock ∧ some k_ ≠ (.slice Ao33 y422.length co33 : Value).ownBlock ∧ some k_ ≠ (.slice Ao35 t425.length co35 : Value).ownBlock ∧ some k_ ≠ (v430 : Value).ownBlock ∧ k_ ≠ gb407)) ?hr ?hp (fun _ hk => hk) ((show ∀ k_, w36.heap.size ≤ k_ → (fun k_ => ((P0_ k_ ∨ P1_ k_ ∨ P2_4_ k_) ∨ w.heap.size ≤ k_) ∧ some k_ ≠ (.slice Ao28 y417.length co28 : Value).ownBlock ∧ some k_ ≠ (.slice Ao33 y422.length co33 : Value).ownBlock ∧ some k_ ≠ (.slice Ao35 t425.length co35 : Value).ownBlock ∧ some k_ ≠ (v430 : Value).ownBlock ∧ k_ ≠ gb407) k_ from fun k_ hk => ⟨(.inr (Nat.le_trans (below_size (by repeat (first | (with_reducible first | exact HB.out | apply below_alloc | apply pw_below_drewN | apply below_drew1 | refine below_set ?_ GE407.out) | exact HB.out))) hk)), Kd.fresh' (Kd.N_lt (by (with_reducible repeat (first | apply Kd.N_alloc | apply Kd.N_drewN | apply Kd.N_drew)); exact HO419.out)) k_ hk, Kd.fresh' (Kd.N_lt (by (with_reducible repeat (first | apply Kd.N_alloc | apply Kd.N_drewN | apply Kd.N_drew)); exact HO424.out)) k_ hk, Kd.fresh' (Kd.N_lt (by (with_reducible repeat (first | apply Kd.N_alloc | apply Kd.N_drewN | apply Kd.N_drew)); exact HO427.out)) k_ hk, Kd.fresh' (Kd.N_lt (by (with_reducible repeat (first | apply Kd.N_alloc | apply Kd.N_drewN | apply Kd.N_drew)); exact HO431.out)) k_ hk, Kd.freshB (g := gb407) (o := .cells #[.int .i64 a2_0, .string a2_1, .string a2_2, .string a2_3, .slice A2_4 l2_4.length c2_4] 25 (0, 0)) (by (with_reducible repeat (first | refine blk_drewN ?_ _ | refine blk_drew ?_ | refine blk_alloc ?_ _)); exact BK407.out) k_ hk⟩) _ (Nat.le_refl _)) (Below.refl _ _) (Nat.le_refl _) (by simp) ?_; (case hd => rfl); (case hg => rfl); (case hr => first | (go_simp; done) | (go_simp; rfl)); (case hp => exact (Reps.c5 (show Kd.FK k25 _ _ (⟨a2_0, a2_1, a2_2, a2_3, l2_4⟩ : S25) [.int .i64 a2_0, .string a2_1, .string a2_2, .string a2_3, .slice A2_4 l2_4.length c2_4] from (k25_mkF _ _ (⟨a2_0, a2_1, a2_2, a2_3, l2_4⟩ : S25) (Kd.V_reads' (Kd.V_mono (ok' := (fun k_ => ((P0_ k_ ∨ P1_ k_ ∨ P2_4_ k_) ∨ w.heap.size ≤ k_) ∧ some k_ ≠ (.slice Ao28 y417.length co28 : Value).ownBlock ∧ some k_ ≠ (.slice Ao33 y422.length co33 : Value).ownBlock ∧ some k_ ≠ (.slice Ao35 t425.length co35 : Value).ownBlock ∧ some k_ ≠ (v430 : Value).ownBlock ∧ k_ ≠ gb407)) (HO_408004.out) (fun k_ hk => ⟨hk.1.1.1.1.1, ⟨hk.1.1.1.2, ⟨hk.1.1.2, ⟨hk.1.2, ⟨hk.2, hk.1.1.1.1.2⟩⟩⟩⟩⟩))).2.1 (Kd.V_F (base := w.heap.size) (e := 25) (Kd.V_mono (base := w.heap.size) (e := 25) (ok' := (fun k_ => ((P0_ k_ ∨ P1_ k_ ∨ P2_4_ k_) ∨ w.heap.size ≤ k_) ∧ some k_ ≠ (.slice Ao28 y417.length co28 : Value).ownBlock ∧ some k_ ≠ (.slice Ao33 y422.length co33 : Value).ownBlock ∧ some k_ ≠ (.slice Ao35 t425.length co35 : Value).ownBlock ∧ some k_ ≠ (v430 : Value).ownBlock ∧ k_ ≠ gb407)) (HO_408004.out) (fun k_ hk => ⟨hk.1.1.1.1.1, ⟨hk.1.1.1.2, ⟨hk.1.1.2, ⟨hk.1.2, ⟨hk.2, hk.1.1.1.1.2⟩⟩⟩⟩⟩))))) (Reps.none _ _)))
                      intro v433 w37 ho38 hb hg_ hnew_
                      clear hg_ hnew_
                      (first | rw [← Ny432.out] at ho38 | (simp only [Int.reduceToNat] at ho38; rw [← Ny432.out] at ho38))
                      have n0_ := Aside0.mk (Kd.V_elder' (by (with_reducible repeat (first | apply Kd.V_alloc | apply Kd.V_drewN | apply Kd.V_drew)); exact HO_0.out) (Kd.N_base ho38) hb)
                      have n1_ := Aside0.mk (Kd.V_elder' (by (with_reducible repeat (first | apply Kd.V_alloc | apply Kd.V_drewN | apply Kd.V_drew)); exact HO_1.out) (Kd.N_base ho38) hb)
                      have n2_ := Aside0.mk (Kd.V_elder' (by (with_reducible repeat (first | apply Kd.V_alloc | apply Kd.V_drewN | apply Kd.V_drew)); exact HO_408004.out) (Kd.N_base ho38) hb)
                      have n3_ := Aside0.mk (Kd.N_elder' (by (with_reducible repeat (first | apply Kd.N_alloc | apply Kd.N_drewN | apply Kd.N_drew)); exact HO419.out) (Kd.N_base ho38) hb)
                      have n4_ := Aside0.mk (Kd.N_elder' (by (with_reducible repeat (first | apply Kd.N_alloc | apply Kd.N_drewN | apply Kd.N_drew)); exact HO424.out) (Kd.N_base ho38) hb)
                      have n5_ := Aside0.mk (Kd.N_elder' (by (with_reducible repeat (first | apply Kd.N_alloc | apply Kd.N_drewN | apply Kd.N_drew)); exact HO427.out) (Kd.N_base ho38) hb)
                      have n6_ := Aside0.mk (Kd.N_elder' (by (with_reducible repeat (first | apply Kd.N_alloc | apply Kd.N_drewN | apply Kd.N_drew)); exact HO431.out) (Kd.N_base ho38) hb)
                      have n7_ := Aside0.mk (Kd.N_lower ho38 (below_size (by repeat (first | (with_reducible first | exact HB.out | apply below_alloc | apply pw_below_drewN | apply below_drew1 | refine below_set ?_ GE407.out) | exact HB.out))))
                      have n8_ := Aside0.mk (blk_below (g := gb407) (o := .cells #[.int .i64 a2_0, .string a2_1, .string a2_2, .string a2_3, .slice A2_4 l2_4.length c2_4] 25 (0, 0)) (by (with_reducible repeat (first | refine blk_drewN ?_ _ | refine blk_drew ?_ | refine blk_alloc ?_ _)); exact BK407.out) hb)
                      have n9_ := Aside0.mk (below_step (by repeat (first | (with_reducible first | exact HB.out | apply below_alloc | apply pw_below_drewN | apply below_drew1 | refine below_set ?_ GE407.out) | exact HB.out)) hb)
                      clear HO_0
                      clear HO_1
                      clear HO_408004
                      clear HO419
                      clear HO424
                      clear HO427
                      clear HO431
                      clear BK407
                      clear HB
                      have HO_0 := n0_
                      have HO_1 := n1_
                      have HO_408004 := n2_
                      have HO419 := n3_
                      have HO424 := n4_
                      have HO427 := n5_
                      have HO431 := n6_
                      have HO434 := n7_
                      have BK407 := n8_
                      have HB := n9_
                      clear n0_ n1_ n2_ n3_ n4_ n5_ n6_ n7_ n8_ n9_
                      clear hb ho38
                      refine hK.out _ _ ⟨(blk_cell BK407.out 0).trans rfl, (blk_cell BK407.out 1).trans rfl, (blk_cell BK407.out 2).trans rfl, (blk_cell BK407.out 3).trans rfl, (blk_cell BK407.out 4).trans rfl⟩ (fun hHeld => ?_)
                      clear hK K
                      refine norm_ (a' := ?_) ?_ ?_
                      rotate_left
                      · show Act.put _ (some 49) _ = _
                        simp only [Act.put, List.setIfInBounds_toArray, List.set_cons_zero, List.set_cons_succ, i64_w, i32_w]
                        rfl
                      exact norm_ (by simp only [putAll, Act.put, List.setIfInBounds_toArray, List.set_cons_zero, List.set_cons_succ]) (hCont (v430, v433) _ ⟨hHeld, (by (with_reducible repeat (first | apply Kd.N_alloc | apply Kd.N_drewN | apply Kd.N_drew)); exact Kd.N_mono HO419.out (fun _ hk => ⟨hk.1.1.1.1.1, ⟨hk.1.1.1.2, ⟨hk.1.1.2, ⟨hk.1.2, ⟨hk.2, hk.1.1.1.1.2⟩⟩⟩⟩⟩)), (by (with_reducible repeat (first | apply Kd.N_alloc | apply Kd.N_drewN | apply Kd.N_drew)); exact Kd.N_mono HO424.out (fun _ hk => ⟨hk.1.1.1.1, ⟨hk.1.1.1.2.1, ⟨hk.1.1.2, ⟨hk.1.2, ⟨hk.2, hk.1.1.1.2.2⟩⟩⟩⟩⟩)), (by (with_reducible repeat (first | apply Kd.N_alloc | apply Kd.N_drewN | apply Kd.N_drew)); exact Kd.N_mono HO427.out (fun _ hk => ⟨hk.1.1.1, ⟨hk.1.1.2.1, ⟨hk.1.2, ⟨hk.2, hk.1.1.2.2⟩⟩⟩⟩)), (by (with_reducible repeat (first | apply Kd.N_alloc | apply Kd.N_drewN | apply Kd.N_drew)); exact Kd.N_mono HO431.out (fun _ hk => ⟨hk.1.1, ⟨hk.1.2.1, ⟨hk.1.2.2.1, ⟨hk.1.2.2.2.1, ⟨hk.2, hk.1.2.2.2.2⟩⟩⟩⟩⟩)), (by (with_reducible repeat (first | apply Kd.N_alloc | apply Kd.N_drewN | apply Kd.N_drew)); exact HO434.out), (by (with_reducible repeat (first | apply Kd.V_alloc | apply Kd.V_drewN | apply Kd.V_drew)); exact Kd.V_mono HO_0.out (fun _ hk => ⟨hk.1.1.1.1.1.1, ⟨hk.1.1.1.1.2, ⟨hk.1.1.1.2, ⟨hk.1.1.2, ⟨hk.1.2, ⟨hk.2, hk.1.1.1.1.1.2⟩⟩⟩⟩⟩⟩)), (by (with_reducible repeat (first | apply Kd.V_alloc | apply Kd.V_drewN | apply Kd.V_drew)); exact Kd.V_mono HO_1.out (fun _ hk => ⟨hk.1.1.1.1.1.1, ⟨hk.1.1.1.1.2, ⟨hk.1.1.1.2, ⟨hk.1.1.2, ⟨hk.1.2, ⟨hk.2, hk.1.1.1.1.1.2⟩⟩⟩⟩⟩⟩)), (by (with_reducible repeat (first | apply Kd.V_alloc | apply Kd.V_drewN | apply Kd.V_drew)); exact Kd.V_mono HO_408004.out (fun _ hk => ⟨hk.1.1.1.1.1.1, ⟨hk.1.1.1.1.2, ⟨hk.1.1.1.2, ⟨hk.1.1.2, ⟨hk.1.2, ⟨hk.2, hk.1.1.1.1.1.2⟩⟩⟩⟩⟩⟩)), (by (with_reducible repeat (first | refine blk_drewN ?_ _ | refine blk_drew ?_ | refine blk_alloc ?_ _)); exact BK407.out), (by repeat (first | (with_reducible first | exact HB.out | apply below_alloc | apply pw_below_drewN | apply below_drew1 | refine below_set ?_ GE407.out) | exact HB.out))⟩)
                    · skip
                      refine Kd.N_lit_step k25 _ 25 ?hg (N' := 49) ?hd (xs := ([(⟨a2_0, a2_1, a2_2, a2_3, l2_4⟩ : S25)] : List (S25))) (inner := [.int .i64 a2_0, .string a2_1, .string a2_2, .string a2_3, .slice A2_4 l2_4.length c2_4]) (ok := (fun k_ => ((P0_ k_ ∨ P1_ k_ ∨ P2_4_ k_) ∨ w.heap.size ≤ k_) ∧ some k_ ≠ (.slice Ao28 y417.length co28 : Value).ownBlock ∧ some k_ ≠ (.slice Ao33 y422.length co33 : Value).ownBlock ∧ some k_ ≠ (.slice Ao35 t425.length co35 : Value).ownBlock ∧ k_ ≠ gb407)) (okp := (fun k_ => ((P0_ k_ ∨ P1_ k_ ∨ P2_4_ k_) ∨ w.heap.size ≤ k_) ∧ some k_ ≠ (.slice Ao28 y417.length co28 : Value).ownBlock ∧ some k_ ≠ (.slice Ao33 y422.length co33 : Value).ownBlock ∧ some k_ ≠ (.slice Ao35 t425.length co35 : Value).ownBlock ∧ k_ ≠ gb407)) ?hr ?hp (fun _ hk => hk) ((show ∀ k_, w34.heap.size ≤ k_ → (fun k_ => ((P0_ k_ ∨ P1_ k_ ∨ P2_4_ k_) ∨ w.heap.size ≤ k_) ∧ some k_ ≠ (.slice Ao28 y417.length co28 : Value).ownBlock ∧ some k_ ≠ (.slice Ao33 y422.length co33 : Value).ownBlock ∧ some k_ ≠ (.slice Ao35 t425.length co35 : Value).ownBlock ∧ k_ ≠ gb407) k_ from fun k_ hk => ⟨(.inr (Nat.le_trans (below_size (by repeat (first | (with_reducible first | exact HB.out | apply below_alloc | apply pw_below_drewN | apply below_drew1 | refine below_set ?_ GE407.out) | exact HB.out))) hk)), Kd.fresh' (Kd.N_lt (by (with_reducible repeat (first | apply Kd.N_alloc | apply Kd.N_drewN | apply Kd.N_drew)); exact HO419.out)) k_ hk, Kd.fresh' (Kd.N_lt (by (with_reducible repeat (first | apply Kd.N_alloc | apply Kd.N_drewN | apply Kd.N_drew)); exact HO424.out)) k_ hk, Kd.fresh' (Kd.N_lt (by (with_reducible repeat (first | apply Kd.N_alloc | apply Kd.N_drewN | apply Kd.N_drew)); exact HO427.out)) k_ hk, Kd.freshB (g := gb407) (o := .cells #[.int .i64 a2_0, .string a2_1, .string a2_2, .string a2_3, .slice A2_4 l2_4.length c2_4] 25 (0, 0)) (by (with_reducible repeat (first | refine blk_drewN ?_ _ | refine blk_drew ?_ | refine blk_alloc ?_ _)); exact BK407.out) k_ hk⟩) _ (Nat.le_refl _)) (Below.refl _ _) (Nat.le_refl _) (by simp) ?_; (case hd => rfl); (case hg => rfl); (case hr => first | (go_simp; done) | (go_simp; rfl)); (case hp => exact (Reps.c5 (show Kd.FK k25 _ _ (⟨a2_0, a2_1, a2_2, a2_3, l2_4⟩ : S25) [.int .i64 a2_0, .string a2_1, .string a2_2, .string a2_3, .slice A2_4 l2_4.length c2_4] from (k25_mkF _ _ (⟨a2_0, a2_1, a2_2, a2_3, l2_4⟩ : S25) (Kd.V_reads' (Kd.V_mono (ok' := (fun k_ => ((P0_ k_ ∨ P1_ k_ ∨ P2_4_ k_) ∨ w.heap.size ≤ k_) ∧ some k_ ≠ (.slice Ao28 y417.length co28 : Value).ownBlock ∧ some k_ ≠ (.slice Ao33 y422.length co33 : Value).ownBlock ∧ some k_ ≠ (.slice Ao35 t425.length co35 : Value).ownBlock ∧ k_ ≠ gb407)) (HO_408004.out) (fun k_ hk => ⟨hk.1.1.1.1, ⟨hk.1.1.2, ⟨hk.1.2, ⟨hk.2, hk.1.1.1.2⟩⟩⟩⟩))).2.1 (Kd.V_F (base := w.heap.size) (e := 25) (Kd.V_mono (base := w.heap.size) (e := 25) (ok' := (fun k_ => ((P0_ k_ ∨ P1_ k_ ∨ P2_4_ k_) ∨ w.heap.size ≤ k_) ∧ some k_ ≠ (.slice Ao28 y417.length co28 : Value).ownBlock ∧ some k_ ≠ (.slice Ao33 y422.length co33 : Value).ownBlock ∧ some k_ ≠ (.slice Ao35 t425.length co35 : Value).ownBlock ∧ k_ ≠ gb407)) (HO_408004.out) (fun k_ hk => ⟨hk.1.1.1.1, ⟨hk.1.1.2, ⟨hk.1.2, ⟨hk.2, hk.1.1.1.2⟩⟩⟩⟩))))) (Reps.none _ _)))
                      intro v433 w36 ho37 hb hg_ hnew_
                      clear hg_ hnew_
                      (first | rw [← Ny432.out] at ho37 | (simp only [Int.reduceToNat] at ho37; rw [← Ny432.out] at ho37))
                      have n0_ := Aside0.mk (Kd.V_elder' (by (with_reducible repeat (first | apply Kd.V_alloc | apply Kd.V_drewN | apply Kd.V_drew)); exact HO_0.out) (Kd.N_base ho37) hb)
                      have n1_ := Aside0.mk (Kd.V_elder' (by (with_reducible repeat (first | apply Kd.V_alloc | apply Kd.V_drewN | apply Kd.V_drew)); exact HO_1.out) (Kd.N_base ho37) hb)
                      have n2_ := Aside0.mk (Kd.V_elder' (by (with_reducible repeat (first | apply Kd.V_alloc | apply Kd.V_drewN | apply Kd.V_drew)); exact HO_408004.out) (Kd.N_base ho37) hb)
                      have n3_ := Aside0.mk (Kd.N_elder' (by (with_reducible repeat (first | apply Kd.N_alloc | apply Kd.N_drewN | apply Kd.N_drew)); exact HO419.out) (Kd.N_base ho37) hb)
                      have n4_ := Aside0.mk (Kd.N_elder' (by (with_reducible repeat (first | apply Kd.N_alloc | apply Kd.N_drewN | apply Kd.N_drew)); exact HO424.out) (Kd.N_base ho37) hb)
                      have n5_ := Aside0.mk (Kd.N_elder' (by (with_reducible repeat (first | apply Kd.N_alloc | apply Kd.N_drewN | apply Kd.N_drew)); exact HO427.out) (Kd.N_base ho37) hb)
                      have n6_ := Aside0.mk (Kd.N_lower ho37 (below_size (by repeat (first | (with_reducible first | exact HB.out | apply below_alloc | apply pw_below_drewN | apply below_drew1 | refine below_set ?_ GE407.out) | exact HB.out))))
                      have n7_ := Aside0.mk (blk_below (g := gb407) (o := .cells #[.int .i64 a2_0, .string a2_1, .string a2_2, .string a2_3, .slice A2_4 l2_4.length c2_4] 25 (0, 0)) (by (with_reducible repeat (first | refine blk_drewN ?_ _ | refine blk_drew ?_ | refine blk_alloc ?_ _)); exact BK407.out) hb)
                      have n8_ := Aside0.mk (below_step (by repeat (first | (with_reducible first | exact HB.out | apply below_alloc | apply pw_below_drewN | apply below_drew1 | refine below_set ?_ GE407.out) | exact HB.out)) hb)
                      clear HO_0
                      clear HO_1
                      clear HO_408004
                      clear HO419
                      clear HO424
                      clear HO427
                      clear BK407
                      clear HB
                      have HO_0 := n0_
                      have HO_1 := n1_
                      have HO_408004 := n2_
                      have HO419 := n3_
                      have HO424 := n4_
                      have HO427 := n5_
                      have HO434 := n6_
                      have BK407 := n7_
                      have HB := n8_
                      clear n0_ n1_ n2_ n3_ n4_ n5_ n6_ n7_ n8_
                      clear hb ho37
                      refine hK.out _ _ ⟨(blk_cell BK407.out 0).trans rfl, (blk_cell BK407.out 1).trans rfl, (blk_cell BK407.out 2).trans rfl, (blk_cell BK407.out 3).trans rfl, (blk_cell BK407.out 4).trans rfl⟩ (fun hHeld => ?_)
                      clear hK K
                      refine norm_ (a' := ?_) ?_ ?_
                      rotate_left
                      · show Act.put _ (some 49) _ = _
                        simp only [Act.put, List.setIfInBounds_toArray, List.set_cons_zero, List.set_cons_succ, i64_w, i32_w]
                        rfl
                      refine one_ (i := 21) (N := some 47) #[true, true, true, true, true, true, true, true, true, true, true, true, true, true, true, true, true, true, true, true, true, true, true, true, false, false, false] rfl rfl (one_of HT_.out (by kernel_rfl)) (by decide) (fun K hK => ?_)
                      refine goes_ Try.func32 (by kernel_rfl) rfl #[.agg #[.int .i64 a2_0, .string a2_1, .string a2_2, .string a2_3, .slice A2_4 l2_4.length c2_4], .slice none 0 0] (by rfl) rfl rfl (by (try simp only [List.map_toArray, List.map_cons, List.map_nil]); first | done | rfl | (simp only [List.length_drop, List.length_take]; rfl)) ?_
                      refine (tree_Node.calls kj4 a2_0 a2_1 a2_2 a2_3 (fun k_ => (((((((P0_ k_ ∨ P1_ k_ ∨ P2_4_ k_) ∨ w.heap.size ≤ k_) ∧ k_ ≠ gb407) ∧ some k_ ≠ (.slice Ao28 y417.length co28 : Value).ownBlock) ∧ some k_ ≠ (.slice Ao33 y422.length co33 : Value).ownBlock) ∧ some k_ ≠ (.slice Ao35 t425.length co35 : Value).ownBlock) ∧ some k_ ≠ (v433 : Value).ownBlock)) _ _ l2_4 (fun k_ => False) _ _ ([] : List (List (S25))) t429 _ ?side1 ?side2 A21.out).mono ?_
                      (case side1 => exact HO_408004.out)
                      (case side2 => exact Kd.V_nil _ _ _ _ _)
                      rintro e w38 ⟨v430, rfl, ho0, hb⟩
                      refine ⟨_, rfl, ?_⟩
                      have n0_ := Aside0.mk (Kd.V_elder' (by (with_reducible repeat (first | apply Kd.V_alloc | apply Kd.V_drewN | apply Kd.V_drew)); exact HO_0.out) (Kd.N_base ho0) hb)
                      have n1_ := Aside0.mk (Kd.V_elder' (by (with_reducible repeat (first | apply Kd.V_alloc | apply Kd.V_drewN | apply Kd.V_drew)); exact HO_1.out) (Kd.N_base ho0) hb)
                      have n2_ := Aside0.mk (Kd.V_elder' (by (with_reducible repeat (first | apply Kd.V_alloc | apply Kd.V_drewN | apply Kd.V_drew)); exact HO_408004.out) (Kd.N_base ho0) hb)
                      have n3_ := Aside0.mk (Kd.N_elder' (by (with_reducible repeat (first | apply Kd.N_alloc | apply Kd.N_drewN | apply Kd.N_drew)); exact HO419.out) (Kd.N_base ho0) hb)
                      have n4_ := Aside0.mk (Kd.N_elder' (by (with_reducible repeat (first | apply Kd.N_alloc | apply Kd.N_drewN | apply Kd.N_drew)); exact HO424.out) (Kd.N_base ho0) hb)
                      have n5_ := Aside0.mk (Kd.N_elder' (by (with_reducible repeat (first | apply Kd.N_alloc | apply Kd.N_drewN | apply Kd.N_drew)); exact HO427.out) (Kd.N_base ho0) hb)
                      have n6_ := Aside0.mk (Kd.N_elder' (by (with_reducible repeat (first | apply Kd.N_alloc | apply Kd.N_drewN | apply Kd.N_drew)); exact HO434.out) (Kd.N_base ho0) hb)
                      have n7_ := Aside0.mk (Kd.N_lower (Kd.N_mono (ok' := fun k_ => ((P0_ k_ ∨ P1_ k_ ∨ P2_4_ k_) ∨ w.heap.size ≤ k_) ∧ some k_ ≠ (.slice Ao28 y417.length co28 : Value).ownBlock ∧ some k_ ≠ (.slice Ao33 y422.length co33 : Value).ownBlock ∧ some k_ ≠ (.slice Ao35 t425.length co35 : Value).ownBlock ∧ some k_ ≠ (v433 : Value).ownBlock ∧ k_ ≠ gb407) ho0 (fun k_ hk_ => ⟨Or.elim hk_ (fun hs_ => Or.elim hs_ (fun hs_ => hs_.1.1.1.1.1) (fun hs_ => (hs_).elim)) (fun hn_ => (.inr (Nat.le_trans (below_size (by repeat (first | (with_reducible first | exact HB.out | apply below_alloc | apply pw_below_drewN | apply below_drew1 | refine below_set ?_ GE407.out) | exact HB.out))) hn_))), Or.elim hk_ (fun hs_ => Or.elim hs_ (fun hs_ => hs_.1.1.1.2) (fun hs_ => (hs_).elim)) (fun hn_ => (Kd.fresh' (Kd.N_lt (by (with_reducible repeat (first | apply Kd.N_alloc | apply Kd.N_drewN | apply Kd.N_drew)); exact HO419.out)) k_ hn_)), Or.elim hk_ (fun hs_ => Or.elim hs_ (fun hs_ => hs_.1.1.2) (fun hs_ => (hs_).elim)) (fun hn_ => (Kd.fresh' (Kd.N_lt (by (with_reducible repeat (first | apply Kd.N_alloc | apply Kd.N_drewN | apply Kd.N_drew)); exact HO424.out)) k_ hn_)), Or.elim hk_ (fun hs_ => Or.elim hs_ (fun hs_ => hs_.1.2) (fun hs_ => (hs_).elim)) (fun hn_ => (Kd.fresh' (Kd.N_lt (by (with_reducible repeat (first | apply Kd.N_alloc | apply Kd.N_drewN | apply Kd.N_drew)); exact HO427.out)) k_ hn_)), Or.elim hk_ (fun hs_ => Or.elim hs_ (fun hs_ => hs_.2) (fun hs_ => (hs_).elim)) (fun hn_ => (Kd.fresh' (Kd.N_lt (by (with_reducible repeat (first | apply Kd.N_alloc | apply Kd.N_drewN | apply Kd.N_drew)); exact HO434.out)) k_ hn_)), Or.elim hk_ (fun hs_ => Or.elim hs_ (fun hs_ => hs_.1.1.1.1.2) (fun hs_ => (hs_).elim)) (fun hn_ => (Kd.freshB (g := gb407) (o := .cells #[.int .i64 a2_0, .string a2_1, .string a2_2, .string a2_3, .slice A2_4 l2_4.length c2_4] 25 (0, 0)) (by (with_reducible repeat (first | refine blk_drewN ?_ _ | refine blk_drew ?_ | refine blk_alloc ?_ _)); exact BK407.out) k_ hn_))⟩)) (below_size (by repeat (first | (with_reducible first | exact HB.out | apply below_alloc | apply pw_below_drewN | apply below_drew1 | refine below_set ?_ GE407.out) | exact HB.out))))
                      have n8_ := Aside0.mk (blk_below (g := gb407) (o := .cells #[.int .i64 a2_0, .string a2_1, .string a2_2, .string a2_3, .slice A2_4 l2_4.length c2_4] 25 (0, 0)) (by (with_reducible repeat (first | refine blk_drewN ?_ _ | refine blk_drew ?_ | refine blk_alloc ?_ _)); exact BK407.out) hb)
                      have n9_ := Aside0.mk (below_step (by repeat (first | (with_reducible first | exact HB.out | apply below_alloc | apply pw_below_drewN | apply below_drew1 | refine below_set ?_ GE407.out) | exact HB.out)) hb)
                      clear HO_0
                      clear HO_1
                      clear HO_408004
                      clear HO419
                      clear HO424
                      clear HO427
                      clear HO434
                      clear BK407
                      clear HB
                      have HO_0 := n0_
                      have HO_1 := n1_
                      have HO_408004 := n2_
                      have HO419 := n3_
                      have HO424 := n4_
                      have HO427 := n5_
                      have HO434 := n6_
                      have HO431 := n7_
                      have BK407 := n8_
                      have HB := n9_
                      clear n0_ n1_ n2_ n3_ n4_ n5_ n6_ n7_ n8_ n9_
                      (try clear hb)
                      (try clear hb2)
                      (try clear hk)
                      (try clear hi)
                      (try clear ho0)
                      refine hK.out _ _ ⟨(blk_cell BK407.out 0).trans rfl, (blk_cell BK407.out 1).trans rfl, (blk_cell BK407.out 2).trans rfl, (blk_cell BK407.out 3).trans rfl, (blk_cell BK407.out 4).trans rfl⟩ (fun hHeld => ?_)
                      clear hK K
                      refine norm_ (a' := ?_) ?_ ?_
                      rotate_left
                      · show Act.put _ (some 47) _ = _
                        simp only [Act.put, List.setIfInBounds_toArray, List.set_cons_zero, List.set_cons_succ, i64_w, i32_w]
                        rfl
                      exact norm_ (by simp only [putAll, Act.put, List.setIfInBounds_toArray, List.set_cons_zero, List.set_cons_succ]) (hCont (v430, v433) _ ⟨hHeld, (by (with_reducible repeat (first | apply Kd.N_alloc | apply Kd.N_drewN | apply Kd.N_drew)); exact Kd.N_mono HO419.out (fun _ hk => ⟨hk.1.1.1.1.1, ⟨hk.1.1.1.2, ⟨hk.1.1.2, ⟨hk.2, ⟨hk.1.2, hk.1.1.1.1.2⟩⟩⟩⟩⟩)), (by (with_reducible repeat (first | apply Kd.N_alloc | apply Kd.N_drewN | apply Kd.N_drew)); exact Kd.N_mono HO424.out (fun _ hk => ⟨hk.1.1.1.1, ⟨hk.1.1.1.2.1, ⟨hk.1.1.2, ⟨hk.2, ⟨hk.1.2, hk.1.1.1.2.2⟩⟩⟩⟩⟩)), (by (with_reducible repeat (first | apply Kd.N_alloc | apply Kd.N_drewN | apply Kd.N_drew)); exact Kd.N_mono HO427.out (fun _ hk => ⟨hk.1.1.1, ⟨hk.1.1.2.1, ⟨hk.2, ⟨hk.1.2, hk.1.1.2.2⟩⟩⟩⟩)), (by (with_reducible repeat (first | apply Kd.N_alloc | apply Kd.N_drewN | apply Kd.N_drew)); exact HO431.out), (by (with_reducible repeat (first | apply Kd.N_alloc | apply Kd.N_drewN | apply Kd.N_drew)); exact Kd.N_mono HO434.out (fun _ hk => ⟨hk.1.1, ⟨hk.1.2.1, ⟨hk.1.2.2.1, ⟨hk.1.2.2.2.1, ⟨hk.2, hk.1.2.2.2.2⟩⟩⟩⟩⟩)), (by (with_reducible repeat (first | apply Kd.V_alloc | apply Kd.V_drewN | apply Kd.V_drew)); exact Kd.V_mono HO_0.out (fun _ hk => ⟨hk.1.1.1.1.1.1, ⟨hk.1.1.1.1.2, ⟨hk.1.1.1.2, ⟨hk.1.1.2, ⟨hk.2, ⟨hk.1.2, hk.1.1.1.1.1.2⟩⟩⟩⟩⟩⟩)), (by (with_reducible repeat (first | apply Kd.V_alloc | apply Kd.V_drewN | apply Kd.V_drew)); exact Kd.V_mono HO_1.out (fun _ hk => ⟨hk.1.1.1.1.1.1, ⟨hk.1.1.1.1.2, ⟨hk.1.1.1.2, ⟨hk.1.1.2, ⟨hk.2, ⟨hk.1.2, hk.1.1.1.1.1.2⟩⟩⟩⟩⟩⟩)), (by (with_reducible repeat (first | apply Kd.V_alloc | apply Kd.V_drewN | apply Kd.V_drew)); exact Kd.V_mono HO_408004.out (fun _ hk => ⟨hk.1.1.1.1.1.1, ⟨hk.1.1.1.1.2, ⟨hk.1.1.1.2, ⟨hk.1.1.2, ⟨hk.2, ⟨hk.1.2, hk.1.1.1.1.1.2⟩⟩⟩⟩⟩⟩)), (by (with_reducible repeat (first | refine blk_drewN ?_ _ | refine blk_drew ?_ | refine blk_alloc ?_ _)); exact BK407.out), (by repeat (first | (with_reducible first | exact HB.out | apply below_alloc | apply pw_below_drewN | apply below_drew1 | refine below_set ?_ GE407.out) | exact HB.out))⟩)
                  rintro ⟨v430, v433⟩ w39 ⟨hS_, h0_, h1_, h2_, h3_, h4_, h5_, h6_, h7_, h8_, h9_⟩
                  have n0_ : Aside0 (Kd.N k25 25 w39 w.heap.size (fun k_ => ((P0_ k_ ∨ P1_ k_ ∨ P2_4_ k_) ∨ w.heap.size ≤ k_) ∧ some k_ ≠ (.slice Ao33 y422.length co33 : Value).ownBlock ∧ some k_ ≠ (.slice Ao35 t425.length co35 : Value).ownBlock ∧ some k_ ≠ (v430 : Value).ownBlock ∧ some k_ ≠ (v433 : Value).ownBlock ∧ k_ ≠ gb407) (.slice Ao28 y417.length co28) y417) := ⟨h0_⟩
                  have n1_ : Aside0 (Kd.N (Kd.slice 25 k25) 22 w39 w.heap.size (fun k_ => ((P0_ k_ ∨ P1_ k_ ∨ P2_4_ k_) ∨ w.heap.size ≤ k_) ∧ some k_ ≠ (.slice Ao28 y417.length co28 : Value).ownBlock ∧ some k_ ≠ (.slice Ao35 t425.length co35 : Value).ownBlock ∧ some k_ ≠ (v430 : Value).ownBlock ∧ some k_ ≠ (v433 : Value).ownBlock ∧ k_ ≠ gb407) (.slice Ao33 y422.length co33) y422) := ⟨h1_⟩
                  have n2_ : Aside0 (Kd.N k25 25 w39 w.heap.size (fun k_ => ((P0_ k_ ∨ P1_ k_ ∨ P2_4_ k_) ∨ w.heap.size ≤ k_) ∧ some k_ ≠ (.slice Ao28 y417.length co28 : Value).ownBlock ∧ some k_ ≠ (v430 : Value).ownBlock ∧ some k_ ≠ (v433 : Value).ownBlock ∧ k_ ≠ gb407) (.slice Ao35 t425.length co35) t425) := ⟨h2_⟩
                  have n3_ : Aside0 (Kd.N k25 25 w39 w.heap.size (fun k_ => ((P0_ k_ ∨ P1_ k_ ∨ P2_4_ k_) ∨ w.heap.size ≤ k_) ∧ some k_ ≠ (.slice Ao28 y417.length co28 : Value).ownBlock ∧ some k_ ≠ (.slice Ao33 y422.length co33 : Value).ownBlock ∧ some k_ ≠ (.slice Ao35 t425.length co35 : Value).ownBlock ∧ some k_ ≠ (v433 : Value).ownBlock ∧ k_ ≠ gb407) v430 t429) := ⟨h3_⟩
                  have n4_ : Aside0 (Kd.N k25 25 w39 w.heap.size (fun k_ => ((P0_ k_ ∨ P1_ k_ ∨ P2_4_ k_) ∨ w.heap.size ≤ k_) ∧ some k_ ≠ (.slice Ao28 y417.length co28 : Value).ownBlock ∧ some k_ ≠ (.slice Ao33 y422.length co33 : Value).ownBlock ∧ some k_ ≠ (.slice Ao35 t425.length co35 : Value).ownBlock ∧ some k_ ≠ (v430 : Value).ownBlock ∧ k_ ≠ gb407) v433 y432) := ⟨h4_⟩
                  have n5_ : Aside0 (Kd.V k25 25 w39 w.heap.size (fun k_ => ((P0_ k_ ∨ P1_ k_ ∨ P2_4_ k_) ∨ w.heap.size ≤ k_) ∧ some k_ ≠ (.slice Ao28 y417.length co28 : Value).ownBlock ∧ some k_ ≠ (.slice Ao33 y422.length co33 : Value).ownBlock ∧ some k_ ≠ (.slice Ao35 t425.length co35 : Value).ownBlock ∧ some k_ ≠ (v430 : Value).ownBlock ∧ some k_ ≠ (v433 : Value).ownBlock ∧ k_ ≠ gb407) (.slice A0 l0.length c0) l0) := ⟨h5_⟩
                  have n6_ : Aside0 (Kd.V k25 25 w39 w.heap.size (fun k_ => ((P0_ k_ ∨ P1_ k_ ∨ P2_4_ k_) ∨ w.heap.size ≤ k_) ∧ some k_ ≠ (.slice Ao28 y417.length co28 : Value).ownBlock ∧ some k_ ≠ (.slice Ao33 y422.length co33 : Value).ownBlock ∧ some k_ ≠ (.slice Ao35 t425.length co35 : Value).ownBlock ∧ some k_ ≠ (v430 : Value).ownBlock ∧ some k_ ≠ (v433 : Value).ownBlock ∧ k_ ≠ gb407) (.slice A1 l1.length c1) l1) := ⟨h6_⟩
                  have n7_ : Aside0 (Kd.V Kd.string 9 w39 w.heap.size (fun k_ => ((P0_ k_ ∨ P1_ k_ ∨ P2_4_ k_) ∨ w.heap.size ≤ k_) ∧ some k_ ≠ (.slice Ao28 y417.length co28 : Value).ownBlock ∧ some k_ ≠ (.slice Ao33 y422.length co33 : Value).ownBlock ∧ some k_ ≠ (.slice Ao35 t425.length co35 : Value).ownBlock ∧ some k_ ≠ (v430 : Value).ownBlock ∧ some k_ ≠ (v433 : Value).ownBlock ∧ k_ ≠ gb407) (.slice A2_4 l2_4.length c2_4) l2_4) := ⟨h7_⟩
                  have n8_ : Aside0 (w39.heap[gb407]? = some (.cells #[.int .i64 a2_0, .string a2_1, .string a2_2, .string a2_3, .slice A2_4 l2_4.length c2_4] 25 (0, 0))) := ⟨h8_⟩
                  have n9_ : Aside0 (Below w.heap.size w w39) := ⟨h9_⟩
                  clear HO_0
                  clear HO_1
                  clear HO_408004
                  clear HO419
                  clear BK407
                  clear HB
                  clear h0_ h1_ h2_ h3_ h4_ h5_ h6_ h7_ h8_ h9_
                  have HO419 := n0_
                  have HO424 := n1_
                  have HO427 := n2_
                  have HO431 := n3_
                  have HO434 := n4_
                  have HO_0 := n5_
                  have HO_1 := n6_
                  have HO_408004 := n7_
                  have BK407 := n8_
                  have HB := n9_
                  clear n0_ n1_ n2_ n3_ n4_ n5_ n6_ n7_ n8_ n9_
                  have hHeld : w39.cell? ⟨gb407, 0, none⟩ = some (.int .i64 a2_0) ∧ w39.cell? ⟨gb407, 1, none⟩ = some (.string a2_1) ∧ w39.cell? ⟨gb407, 2, none⟩ = some (.string a2_2) ∧ w39.cell? ⟨gb407, 3, none⟩ = some (.string a2_3) ∧ w39.cell? ⟨gb407, 4, none⟩ = some (.slice A2_4 l2_4.length c2_4) := hS_
                  obtain ⟨Ao40, co40, eo40⟩ := Kd.N_slice HO431.out
                  (first | subst eo40 | (injection eo40 with f1_ f2_ f3_; have f4_ := f1_.symm; have f5_ := f3_.symm; clear f1_ f2_ f3_; subst f4_; subst f5_))
                  obtain ⟨Ao41, co41, eo41⟩ := Kd.N_slice HO434.out
                  (first | subst eo41 | (injection eo41 with f1_ f2_ f3_; have f4_ := f1_.symm; have f5_ := f3_.symm; clear f1_ f2_ f3_; subst f4_; subst f5_))
                  refine norm_ (a' := ?_) ?_ ?_
                  rotate_left
                  · simp only [putAll, Act.put, List.setIfInBounds_toArray, List.set_cons_zero, List.set_cons_succ]
                    rfl
                  refine one_ (i := 24) (N := some 50) #[true, true, true, true, true, true, true, true, true, true, true, true, true, true, true, true, true, true, true, true, true, true, true, true, true, false, false] rfl rfl (one_of HT_.out (by kernel_rfl)) (by decide) (fun K hK => ?_)
                  refine goes_ Try.func31 (by kernel_rfl) rfl #[.slice Ao40 t429.length co40, .slice Ao41 y432.length co41] (by rfl) rfl rfl (by (try simp only [List.map_toArray, List.map_cons, List.map_nil]); first | done | rfl | (simp only [List.length_drop, List.length_take]; rfl)) ?_
                  with_reducible refine (reredosref08_Same.calls kj4 _ _ t429 _ _ y432 t435 _ ?side1 ?side2 ?side3 ?side4 A22.out).mono ?_
                  (case side1 => repeat (first | exact (Kd.N_reads' HO431.out).2.2 | (with_reducible refine Kd.C_alloc ?_ _) | (with_reducible refine Kd.C_drewN ?_ _) | (with_reducible refine Kd.C_drew ?_)))
                  (case side2 => exact (Kd.N_reads' HO431.out).2.1)
                  (case side3 => repeat (first | exact (Kd.N_reads' HO434.out).2.2 | (with_reducible refine Kd.C_alloc ?_ _) | (with_reducible refine Kd.C_drewN ?_ _) | (with_reducible refine Kd.C_drew ?_)))
                  (case side4 => exact (Kd.N_reads' HO434.out).2.1)
                  rintro e w' ⟨rfl, ⟨nd, rfl⟩⟩
                  refine ⟨_, rfl, ?_⟩
                  refine hK.out _ _ ⟨(blk_cell BK407.out 0).trans rfl, (blk_cell BK407.out 1).trans rfl, (blk_cell BK407.out 2).trans rfl, (blk_cell BK407.out 3).trans rfl, (blk_cell BK407.out 4).trans rfl⟩ (fun hHeld => ?_)
                  clear hK K
                  refine norm_ (a' := ?_) ?_ ?_
                  rotate_left
                  · show Act.put _ (some 50) _ = _
                    simp only [Act.put, List.setIfInBounds_toArray, List.set_cons_zero, List.set_cons_succ, i64_w, i32_w]
                    rfl
                  refine pure_ (i := 25) (N := some 51) (v := ?_) (a' := ?_) #[true, true, true, true, true, true, true, true, true, true, true, true, true, true, true, true, true, true, true, true, true, true, true, true, true, true, false] rfl rfl (any_of HT_.out (by kernel_rfl)) (fun _ _ _ h => h) (Or.inl ⟨by rfl, ?_⟩) ?_ ?_
                  rotate_left
                  · intro w'
                    go_simp
                    with_reducible rfl
                  rotate_left
                  · simp only [Act.put, List.setIfInBounds_toArray, List.set_cons_zero, List.set_cons_succ, i64_w, i32_w]
                    rfl
                  refine pure_ (i := 26) (N := some 6) (v := ?_) (a' := ?_) #[true, true, true, true, true, true, true, true, true, true, true, true, true, true, true, true, true, true, true, true, true, true, true, true, true, true, true] rfl rfl (any_of HT_.out (by kernel_rfl)) (fun _ _ _ h => h) (Or.inl ⟨by rfl, ?_⟩) ?_ ?_
                  rotate_left
                  · intro w'
                    go_simp
                    with_reducible rfl
                  rotate_left
                  · simp only [Act.put, List.setIfInBounds_toArray, List.set_cons_zero, List.set_cons_succ, i64_w, i32_w]
                    rfl
                  refine done_ (done_of HT_.out (by kernel_rfl)) ?_
                  try go_wp2
                  go_ret
                  exact ⟨by first | rfl | (simp [errW_none, errW_some] <;> rfl) | (simp [*, errW_none, errW_some] <;> rfl), by repeat (first | (with_reducible first | exact HB.out | apply below_alloc | apply pw_below_drewN | apply below_drew1 | refine below_set ?_ GE407.out) | exact HB.out)⟩
                · replace c20 := Bool.eq_false_iff.mpr c20
                  subst c20
                  have H1 : (none) = some r := by rw [if_neg (show ¬ (false = true) by decide)] at H; exact H
                  clear H
                  have H := H1
                  clear H1
                  exact absurd H (by simp)
              · rw [if_neg c17] at H
                exact absurd H (by simp)
            · replace c14 := Bool.eq_false_iff.mpr c14
              subst c14
              have H1 : (none) = some r := by rw [if_neg (show ¬ (false = true) by decide)] at H; exact H
              clear H
              have H := H1
              clear H1
              exact absurd H (by simp)
          · rw [if_neg c13] at H
            exact absurd H (by simp)
        · rw [if_neg c12] at H
          exact absurd H (by simp)
def reredoslaw08_TreeSame.Pure : Prop := ∀ (l0 : List (S25)) (l1 : List (S25)) (a2_0 : Int) (a2_1 : ByteArray) (a2_2 : ByteArray) (a2_3 : ByteArray) (l2_4 : List ByteArray), (l0.length ≤ maxLen ∧ ∀ e_ ∈ l0, (((Lit.int .i64 e_.f0).wf = true) ∧ (e_.f1.size ≤ maxLen) ∧ (e_.f2.size ≤ maxLen) ∧ (e_.f3.size ≤ maxLen) ∧ (e_.f4.length ≤ maxLen ∧ ∀ ee_ ∈ e_.f4, (ee_.size ≤ maxLen)))) → (l1.length ≤ maxLen ∧ ∀ e_ ∈ l1, (((Lit.int .i64 e_.f0).wf = true) ∧ (e_.f1.size ≤ maxLen) ∧ (e_.f2.size ≤ maxLen) ∧ (e_.f3.size ≤ maxLen) ∧ (e_.f4.length ≤ maxLen ∧ ∀ ee_ ∈ e_.f4, (ee_.size ≤ maxLen)))) → ((Lit.int .i64 a2_0).wf = true) → (a2_1.size ≤ maxLen) → (a2_2.size ≤ maxLen) → (a2_3.size ≤ maxLen) → (l2_4.length ≤ maxLen ∧ ∀ e_ ∈ l2_4, (e_.size ≤ maxLen)) → ∃ k, reredoslaw08_TreeSame.f k l0 l1 a2_0 a2_1 a2_2 a2_3 l2_4 = some true
end Go.Proofs.Ytdelccahgchadaa.P
end
section
namespace Go.Proofs.Ytdelccahgchadaa
open Go.ChangeShapes Go.WideShapes Go.ChangeAt Go.RowKit Go.Deep Go.Proofs.YtdelccahgchadaaW.PrintWords Go.Proofs.YtdelccahgchadaaW.PrintLast Go.Proofs.YtdelccahgchadaaW.PrintMore
set_option linter.unusedVariables false
def Opens {H : Type} (enc : TypeId × Value → H) (P : Program) (w : World) (t : TypeId) {α : Type} (K : Kd α) (wf : α → Prop) : Prop :=
  ∀ (spare : Nat → Bool) (held : Bool) (fuel : Nat) (cs : List Value) (x : DataW H × List MemPlace), DataW.trod enc P w 0 spare held fuel t cs = some x → ∃ a, K.K w a cs ∧ wf a
section
variable {H : Type} {enc : TypeId × Value → H} {P : Program} {w : World}
theorem opens_int {t : TypeId} {k : IntKind} (hu : P.underlying t = some (.int k)) : Opens enc P w t (Kd.int k) (fun n => (Lit.int k n).wf = true) := fun spare held fuel cs x h => by
  obtain ⟨n, rfl, _, hw⟩ := DataW.trod_int hu h
  exact ⟨n, rfl, hw⟩
theorem opens_string {t : TypeId} (hu : P.underlying t = some .string) : Opens enc P w t Kd.string (fun s => s.size ≤ maxLen) := fun spare held fuel cs x h => by
  obtain ⟨n, rfl, _, hw⟩ := DataW.trod_string hu h
  exact ⟨n, rfl, hw⟩
theorem choose_list {α : Type} (n : Nat) (p : Nat → α → Prop) (h : ∀ i, i < n → ∃ a, p i a) : ∃ l : List α, l.length = n ∧ ∀ i a, l[i]? = some a → p i a := by
  induction n with
  | zero => exact ⟨[], rfl, fun i a h => by simp at h⟩
  | succ n ih =>
    obtain ⟨l, hl, hp⟩ := ih fun i hi => h i (by omega)
    obtain ⟨a, ha⟩ := h n (by omega)
    refine ⟨l ++ [a], by simp [hl], fun i b hb => ?_⟩
    rcases Nat.lt_or_ge i l.length with hi | hi
    · rw [List.getElem?_append_left hi] at hb
      exact hp i b hb
    · have hi' : i = l.length := by
        have := (List.getElem?_eq_some_iff.1 hb).1
        simp at this
        omega
      subst hi'
      simp at hb
      subst hb
      rw [hl]
      exact ha
theorem opens_slice {t e : TypeId} {α : Type} {K : Kd α} {wf : α → Prop} (hu : P.underlying t = some (.slice e)) (hsz : P.cellsOf e = K.sz) (h : Opens enc P w e K wf) :
    Opens enc P w t (Kd.slice e K) (fun l => l.length ≤ maxLen ∧ ∀ x ∈ l, wf x) := fun spare held fuel cs x hx => by
  rcases open_slice hu hx with ⟨rfl, _⟩ | ⟨a, len, cap, m, n, D, Pl, rfl, _, hl, hm, hmm, _, hel⟩
  · exact ⟨[], ⟨none, 0, rfl, Nat.le_refl _, ⟨rfl, by simp, fun h0 => absurd h0 (Nat.lt_irrefl 0)⟩⟩, by simp, fun _ hx => by simp at hx⟩
  · have hlm : len ≤ m := by rw [hmm]; split <;> omega
    obtain ⟨l, hll, hp⟩ := choose_list len (fun i x => ∃ cs', w.cells? 0 (a.add (i * P.cellsOf e)) (P.cellsOf e) = some cs' ∧ K.K w x cs' ∧ wf x) fun i hi => by
      obtain ⟨cs', h1, h2⟩ := hel i (by omega)
      obtain ⟨x, h3, h4⟩ := h spare held n cs' _ h2
      exact ⟨x, cs', h1, h3, h4⟩
    subst hll
    refine ⟨l, ⟨some a, cap, rfl, hl, ⟨rfl, by unfold maxLen at hm; omega, fun _ => ⟨a, rfl, fun j p hj => ?_⟩⟩⟩, Nat.le_trans hl hm, fun x hx => ?_⟩
    · obtain ⟨cs', h1, h2, _⟩ := hp j p hj
      refine ⟨cs', K.K_len h2, h2, fun i u hu => ?_⟩
      have hc := World.cells?_some h1
      have hi : i < P.cellsOf e := by
        have h5 := (List.getElem?_eq_some_iff.1 hu).1
        rw [K.K_len h2, ← hsz] at h5
        exact h5
      have := hc.2.2 i hi
      rw [Go.Deep.add_add, hsz] at this
      rw [this]
      exact hu
    · obtain ⟨i, hi⟩ := List.getElem?_of_mem hx
      obtain ⟨_, _, _, h4⟩ := hp i x hi
      exact h4
def OpensF {H : Type} (enc : TypeId × Value → H) (P : Program) (w : World) (fs : List Field) (off : Nat) {α : Type} (K : Kd α) (wf : α → Prop) : Prop :=
  ∀ (spare : Nat → Bool) (held : Bool) (fuel : Nat) (cs : List Value), cs.length = off + K.sz →
    (∀ f ∈ fs, ∃ x, DataW.trod enc P w 0 spare held fuel f.type ((cs.drop f.offset).take (P.cellsOf f.type)) = some x) → ∃ a, K.K w a (cs.drop off) ∧ wf a
theorem opensF_last {f : Field} {off : Nat} {α : Type} {K : Kd α} {wf : α → Prop} (hoff : f.offset = off) (hsz : P.cellsOf f.type = K.sz) (h : Opens enc P w f.type K wf) : OpensF enc P w [f] off K wf := fun spare held fuel cs hl hf => by
  obtain ⟨x, hx⟩ := hf f (List.mem_singleton.2 rfl)
  obtain ⟨a, h1, h2⟩ := h _ _ _ _ _ hx
  refine ⟨a, ?_, h2⟩
  rw [hoff, hsz, List.take_of_length_le (by rw [List.length_drop]; omega)] at h1
  exact h1
theorem opensF_cons {f : Field} {fs : List Field} {off : Nat} {α β : Type} {K : Kd α} {K2 : Kd β} {wf : α → Prop} {wf2 : β → Prop} (hoff : f.offset = off) (hsz : P.cellsOf f.type = K.sz) (h : Opens enc P w f.type K wf) (hr : OpensF enc P w fs (off + K.sz) K2 wf2) :
    OpensF enc P w (f :: fs) off (Kd.pair K K2) (fun a => wf a.1 ∧ wf2 a.2) := fun spare held fuel cs hl hf => by
  obtain ⟨x, hx⟩ := hf f List.mem_cons_self
  obtain ⟨a, h1, h2⟩ := h _ _ _ _ _ hx
  obtain ⟨b, h3, h4⟩ := hr spare held fuel cs (by rw [hl]; show off + (K.sz + K2.sz) = _; omega) (fun g hg => hf g (List.mem_cons_of_mem _ hg))
  refine ⟨(a, b), ⟨_, _, ?_, h1, h3⟩, h2, h4⟩
  rw [hoff, hsz, ← List.drop_drop, List.take_append_drop]
theorem opens_struct {t : TypeId} {fs : Array Field} {α : Type} {K : Kd α} {wf : α → Prop} (hu : P.underlying t = some (.struct fs)) (hc : P.cellsOf t = K.sz) (h : OpensF enc P w fs.toList 0 K wf) : Opens enc P w t K wf := fun spare held fuel cs x hx => by
  obtain ⟨xs, n, _, _, hl, hn, hel⟩ := DataW.trod_struct hu hx
  refine h spare held n cs (by rw [hl, hc]; omega) (fun f hf => ?_)
  obtain ⟨i, hi⟩ := List.getElem?_of_mem hf
  have hi' : fs[i]? = some f := by simpa using hi
  have hlt : i < xs.length := by
    rw [hn]
    exact (Array.getElem?_eq_some_iff.1 hi').1
  exact ⟨_, (hel i f hi').trans (List.getElem?_eq_getElem hlt)⟩
theorem opens_iso {t : TypeId} {α β : Type} {K : Kd α} {wf : α → Prop} (f : β → α) (g : α → β) (hfg : ∀ a, f (g a) = a) (h : Opens enc P w t K wf) : Opens enc P w t (Kd.iso K f) (fun b => wf (f b)) := fun spare held fuel cs x hx => by
  obtain ⟨a, h1, h2⟩ := h _ _ _ _ _ hx
  exact ⟨g a, by show K.K w (f (g a)) cs; rw [hfg]; exact h1, by show wf (f (g a)); rw [hfg]; exact h2⟩
theorem arg_slice {t e : TypeId} {α : Type} {K : Kd α} {wf : List α → Prop} {r : Reach} {b0 : Nat} {v : Value} {d : DataW H} {p : List MemPlace} {spare : Nat → Bool} {held : Bool} (hu : P.underlying t = some (.slice e)) (ho : Opens enc P w t (Kd.slice e K) wf)
    (hv : Value.okWide P w r b0 t v) (h : DataW.Trod enc P w 0 spare held t v d p) : ∃ A c l, v = .slice A l.length c ∧ l.length ≤ c ∧ K.C w A l.length l ∧ wf l := by
  obtain ⟨a, len, cap, rfl⟩ := okWide_slice hu hv
  obtain ⟨fuel, hf⟩ := h
  obtain ⟨l, ⟨A, c, he, hl, hc⟩, hw⟩ := ho _ _ _ _ _ hf
  simp only [Value.cells, List.cons.injEq, and_true] at he
  exact ⟨A, c, l, he, hl, hc, hw⟩
theorem arg_struct {t : TypeId} {fs : Array Field} {α : Type} {K : Kd α} {wf : α → Prop} {r : Reach} {b0 : Nat} {v : Value} {d : DataW H} {p : List MemPlace} {spare : Nat → Bool} {held : Bool} (hu : P.underlying t = some (.struct fs)) (ho : Opens enc P w t K wf)
    (hv : Value.okWide P w r b0 t v) (h : DataW.Trod enc P w 0 spare held t v d p) : ∃ a cs, v = .agg cs ∧ K.K w a cs.toList ∧ wf a := by
  obtain ⟨cs, rfl, _⟩ := okWide_struct hu hv
  obtain ⟨fuel, hf⟩ := h
  obtain ⟨a, h1, h2⟩ := ho _ _ _ _ _ hf
  exact ⟨a, cs, rfl, h1, h2⟩
theorem of_toList {cs : Array Value} {l : List Value} (h : cs.toList = l) : cs = l.toArray := by rw [← h]
theorem trod_places {t : TypeId} {v : Value} {d : DataW H} {p : List MemPlace} {spare : Nat → Bool} {held : Bool} (h : DataW.Trod enc P w 0 spare held t v d p) : ∀ x ∈ p, x.block < w.heap.size := by
  obtain ⟨m, hm⟩ := h
  exact DataW.trod_lt m _ _ _ hm
end
end Go.Proofs.Ytdelccahgchadaa
end
section
namespace Go.Proofs.Ytdelccahgchadaa
open Go.RowKit Go.Proofs.YtdelccahgchadaaW.PrintWords Go.Proofs.YtdelccahgchadaaW.PrintMore
theorem wrap_id {a : Int} (h : -9223372036854775808 ≤ a) (h2 : a ≤ 9223372036854775807) : wrap64 a = a := by unfold wrap64; omega
end Go.Proofs.Ytdelccahgchadaa
end
section
namespace Go.Proofs.Ytdelccahgchadaa
open Go.RowKit Go.Proofs.YtdelccahgchadaaW.PrintWords Go.Proofs.YtdelccahgchadaaW.PrintMore
set_option linter.unusedVariables false
section
variable {α : Type} (kd : α → Int)
def endW : List α → Nat → Option Nat
  | _, 0 => some 0
  | [], _ + 1 => none
  | x :: l, n + 1 => if kd x < 0 then none else (endW l (n + (kd x).toNat)).map (· + 1)
theorem endW_zero (l : List α) : endW kd l 0 = some 0 := by cases l <;> rfl
theorem endW_le {l : List α} : ∀ {n m : Nat}, endW kd l n = some m → m ≤ l.length ∧ (1 ≤ n → 1 ≤ m) := by
  induction l with
  | nil =>
    intro n m h
    cases n with
    | zero => rw [endW_zero] at h; injection h with h; subst h; exact ⟨Nat.le_refl _, fun h => absurd h (by omega)⟩
    | succ n => cases h
  | cons x l ih =>
    intro n m h
    cases n with
    | zero => rw [endW_zero] at h; injection h with h; subst h; exact ⟨Nat.zero_le _, fun h => absurd h (by omega)⟩
    | succ n =>
      simp only [endW] at h
      split at h
      · cases h
      · obtain ⟨j, hj, rfl⟩ := Option.map_eq_some_iff.1 h
        have := (ih hj).1
        rw [List.length_cons]
        exact ⟨by omega, fun _ => by omega⟩
def dec : List Nat → List Nat
  | [] => []
  | c :: st => if c ≤ 1 then dec st else (c - 1) :: st
def mach : List α → List Nat → Nat → Nat
  | [], _, most => most
  | x :: l, st, most =>
    if (kd x).toNat = 0 then (match dec st with | [] => max most (st.length + 1) | s :: st' => mach l (s :: st') (max most (st.length + 1)))
    else mach l ((kd x).toNat :: st) (max most (st.length + 1))
def fin (st : List Nat) (r : List α) (most : Nat) : Nat := match dec st with | [] => most | s :: st' => mach kd r (s :: st') most
theorem mach_cons0 (x : α) (l : List α) (st : List Nat) (most : Nat) (h : (kd x).toNat = 0) : mach kd (x :: l) st most = fin kd st l (max most (st.length + 1)) := by
  simp only [mach, fin]; rw [if_pos h]
theorem mach_consS (x : α) (l : List α) (st : List Nat) (most : Nat) (h : ¬ (kd x).toNat = 0) : mach kd (x :: l) st most = mach kd l ((kd x).toNat :: st) (max most (st.length + 1)) := by
  simp only [mach]; rw [if_neg h]
def need : List Nat → Nat
  | [] => 1
  | c :: st => (c - 1) + need st
theorem need_pos (st : List Nat) : 1 ≤ need st := by
  induction st with
  | nil => exact Nat.le_refl _
  | cons c st ih => simp only [need]; omega
theorem dec_need (st : List Nat) (h : ∀ c ∈ st, 1 ≤ c) : (dec st = [] → need st = 1) ∧ (dec st ≠ [] → need (dec st) = need st - 1) ∧ ∀ c ∈ dec st, 1 ≤ c := by
  induction st with
  | nil => exact ⟨fun _ => rfl, fun h => absurd rfl h, fun c hc => by cases hc⟩
  | cons c st ih =>
    have ih := ih fun d hd => h d (List.mem_cons_of_mem _ hd)
    have hc := h c List.mem_cons_self
    have hp := need_pos st
    simp only [dec, need]
    by_cases h1 : c ≤ 1
    · rw [if_pos h1]
      refine ⟨fun h2 => ?_, fun h2 => ?_, ih.2.2⟩
      · have := ih.1 h2; omega
      · have := ih.2.1 h2; omega
    · rw [if_neg h1]
      refine ⟨fun h2 => (by cases h2), fun _ => ?_, ?_⟩
      · simp only [need]; omega
      · intro d hd
        rcases List.mem_cons.1 hd with e | e
        · omega
        · exact h d (List.mem_cons_of_mem _ e)
def depL (l : List α) : Nat := match endW kd l 1 with | none => 0 | some _ => mach kd l [] 0
end
end Go.Proofs.Ytdelccahgchadaa
end
section
namespace Go.Proofs.Ytdelccahgchadaa
open Go.RowKit Go.Lib Go.Proofs.Ytdelccahgchadaa.P Go.Proofs.YtdelccahgchadaaW.PrintWords Go.Proofs.YtdelccahgchadaaW.PrintMore
set_option linter.unusedVariables false
abbrev Nd := S25
def kdB (f0 : Int) (v : ByteArray) : Int :=
  let b : Int := if v.toList = ([123] : List UInt8) then 1 else 0
  if f0 = 1 ∨ f0 = 2 then 0 else if f0 = 3 then 1 + b else if f0 = 4 then 2 + b else if f0 = 5 ∨ f0 = 7 then 1 else if f0 = 6 ∨ f0 = 8 then 2 else -1
def kdT (x : Nd) : Int := kdB x.f0 x.f1
theorem kdB_bounds (f0 : Int) (v : ByteArray) : -1 ≤ kdB f0 v ∧ kdB f0 v ≤ 3 := by
  unfold kdB
  simp only []
  split <;> (try split) <;> (try split) <;> (try split) <;> (try split) <;> (try split) <;> omega
theorem Kids_eq (f0 : Int) (v a n : ByteArray) (l : List ByteArray) (k : Nat) (hk : 3 ≤ k) : tree_Kids.f k f0 v a n l = some (kdB f0 v) := by
  obtain ⟨k, rfl⟩ : ∃ j, k = j + 3 := ⟨k - 3, by omega⟩
  have h0 : ∀ b : Int, b = 0 ∨ b = 1 → tree_Kids.j0 (k + 3) b f0 v a n l = some (if f0 = 1 ∨ f0 = 2 then 0 else if f0 = 3 then 1 + b else if f0 = 4 then 2 + b else if f0 = 5 ∨ f0 = 7 then 1 else if f0 = 6 ∨ f0 = 8 then 2 else -1) := by
    intro b hb
    have w1 : wrap64 (1 + b) = 1 + b := wrap_id (by omega) (by omega)
    have w2 : wrap64 (2 + b) = 2 + b := wrap_id (by omega) (by omega)
    simp only [tree_Kids.j0, tree_Kids.j1, tree_Kids.j2, w1, w2]
    by_cases h1 : f0 = 1
    · subst h1; simp
    by_cases h2 : f0 = 2
    · subst h2; simp
    by_cases h3 : f0 = 3
    · subst h3; simp
    by_cases h4 : f0 = 4
    · subst h4; simp
    by_cases h5 : f0 = 5
    · subst h5; simp
    by_cases h6 : f0 = 6
    · subst h6; simp
    by_cases h7 : f0 = 7
    · subst h7; simp
    by_cases h8 : f0 = 8
    · subst h8; simp
    simp [h1, h2, h3, h4, h5, h6, h7, h8]
  unfold tree_Kids.f kdB
  by_cases hv : v.toList = ([123] : List UInt8)
  · rw [if_pos hv, if_pos hv]; exact h0 1 (.inr rfl)
  · rw [if_neg hv, if_neg hv]; exact h0 0 (.inl rfl)
theorem rd_drop (l : List Nd) (i : Nat) (x : Nd) (r : List Nd) (h : l.drop i = x :: r) : rd_T25 l (i : Int) = x ∧ i < l.length ∧ l.drop (i + 1) = r := by
  have hi : i < l.length := by
    have := congrArg List.length h
    rw [List.length_drop, List.length_cons] at this
    omega
  have hd := List.drop_eq_getElem_cons hi
  rw [h] at hd
  injection hd with h1 h2
  refine ⟨?_, hi, h2.symm⟩
  unfold rd_T25
  rw [Int.toNat_natCast, List.getD_eq_getElem?_getD, List.getElem?_eq_getElem hi]
  exact h1.symm
def outE (i : Nat) : Option Nat → Int × Bool
  | none => (0, false)
  | some m => (((i + m : Nat) : Int), true)
theorem End_l0 (l0 : List Nd) (hl : l0.length ≤ 1000000) : ∀ (l : List Nd) (i n k : Nat), l0.drop i = l → n ≤ 3 * i + 1 → i ≤ l0.length → l.length + 5 ≤ k →
    tree_End.l0 k l0 (i : Int) (n : Int) = some (outE i (endW kdT l n)) := by
  intro l
  induction l with
  | nil =>
    intro i n k hd hn hi hk
    obtain ⟨k, rfl⟩ : ∃ j, k = j + 1 := ⟨k - 1, by rw [List.length_nil] at hk; omega⟩
    simp only [tree_End.l0]
    cases n with
    | zero => rw [if_neg (by omega), endW_zero]; rfl
    | succ n =>
      have : l0.length ≤ i := by
        have := congrArg List.length hd
        rw [List.length_drop, List.length_nil] at this
        omega
      rw [if_pos (by omega), if_neg (by omega), if_pos (by omega)]
      rfl
  | cons x l ih =>
    intro i n k hd hn hi hk
    rw [List.length_cons] at hk
    obtain ⟨k, rfl⟩ : ∃ j, k = j + 1 := ⟨k - 1, by omega⟩
    obtain ⟨hr, hlt, hd2⟩ := rd_drop l0 i x l hd
    simp only [tree_End.l0]
    cases n with
    | zero => rw [if_neg (by omega), endW_zero]; rfl
    | succ n =>
      rw [if_pos (by omega), if_neg (by omega), if_neg (by omega), if_pos (by omega), if_pos (by omega), hr, Kids_eq _ _ _ _ _ k (by omega)]
      simp only [Option.bind_some, endW]
      have hb := kdB_bounds x.f0 x.f1
      have hk1 : kdT x = kdB x.f0 x.f1 := rfl
      by_cases h : kdB x.f0 x.f1 < 0
      · rw [if_pos h, hk1, if_pos h]; rfl
      · rw [if_neg h, hk1, if_neg h]
        have w1 : wrap64 ((i : Int) + 1) = ((i + 1 : Nat) : Int) := by rw [wrap_id (by omega) (by omega)]; omega
        have w2 : wrap64 (((n + 1 : Nat) : Int) + kdB x.f0 x.f1) = ((n + 1 : Nat) : Int) + kdB x.f0 x.f1 := wrap_id (by omega) (by omega)
        have w3 : wrap64 (((n + 1 : Nat) : Int) + kdB x.f0 x.f1 - 1) = ((n + (kdB x.f0 x.f1).toNat : Nat) : Int) := by rw [wrap_id (by omega) (by omega)]; omega
        rw [w1, w2, w3]
        clear w1 w2 w3
        rw [ih (i + 1) (n + (kdB x.f0 x.f1).toNat) k hd2 (by omega) (by omega) (by omega)]
        cases endW kdT l (n + (kdB x.f0 x.f1).toNat) with
        | none => rfl
        | some m => simp only [outE, Option.map_some]; congr 2; omega
theorem End_eq (l0 : List Nd) (hl : l0.length ≤ 1000000) (i : Nat) (hi : i ≤ l0.length) (k : Nat) (hk : l0.length + 5 ≤ k) : tree_End.f k l0 (i : Int) = some (outE i (endW kdT (l0.drop i) 1)) := by
  unfold tree_End.f
  exact End_l0 l0 hl (l0.drop i) i 1 k rfl (by omega) hi (by rw [List.length_drop]; omega)
def encS : List Nat → List Int
  | [] => []
  | c :: st => encS st ++ [(c : Int)]
theorem encS_len (st : List Nat) : (encS st).length = st.length := by
  induction st with
  | nil => rfl
  | cons c st ih => simp [encS, ih]
theorem rd_last (l : List Int) (c : Int) : rd (l ++ [c]) (l.length : Int) = c := by
  simp [rd]
theorem mx_nat (a b : Nat) : mx (a : Int) (b : Int) = ((max a b : Nat) : Int) := by
  unfold mx
  split <;> omega
theorem dec_len (st : List Nat) : (dec st).length ≤ st.length := by
  induction st with
  | nil => exact Nat.le_refl _
  | cons c st ih => simp only [dec]; split <;> simp only [List.length_cons] <;> omega
theorem dec_le3 (st : List Nat) (h : ∀ c ∈ st, 1 ≤ c ∧ c ≤ 3) : ∀ c ∈ dec st, 1 ≤ c ∧ c ≤ 3 := by
  induction st with
  | nil => intro c hc; cases hc
  | cons c st ih =>
    have hc := h c List.mem_cons_self
    simp only [dec]
    split
    · exact ih fun d hd => h d (List.mem_cons_of_mem _ hd)
    · intro d hd
      rcases List.mem_cons.1 hd with e | e
      · omega
      · exact h d (List.mem_cons_of_mem _ e)
theorem Depth_open (l0 : List Nd) (i most c : Nat) (st : List Nat) (k : Nat) (hc : 1 ≤ c) (hl : st.length ≤ 1000000) :
    tree_Depth.l1 (k + 2) (most : Int) (encS (c :: st)) l0 (l0.length : Int) (i : Int) = tree_Depth.l0 k (most : Int) (encS (c :: st)) l0 (l0.length : Int) (wrap64 ((i : Int) + 1)) := by
  have len2 : (encS (c :: st)).length = st.length + 1 := by rw [encS_len]; rfl
  have hw2 : wrap64 (((st.length + 1 : Nat) : Int) - 1) = (st.length : Int) := by rw [wrap_id (by omega) (by omega)]; omega
  have hr2 : rd (encS (c :: st)) (st.length : Int) = (c : Int) := by
    have := rd_last (encS st) (c : Int)
    rw [encS_len] at this
    exact this
  simp only [tree_Depth.l1, tree_Depth.j2, len2, hw2, hr2]
  clear hw2
  have hb : ((c : Int) == 0) = false := by simp; omega
  rw [if_pos (by omega), if_pos (by omega), if_pos (by omega), hb, if_neg (by decide), if_neg (by omega)]
theorem Depth_done (l0 : List Nd) (i most : Nat) : ∀ (st : List Nat) (k : Nat), (∀ c ∈ st, 1 ≤ c ∧ c ≤ 3) → st.length ≤ 1000000 → 2 * st.length + 4 ≤ k →
    ∃ k', k ≤ k' + 2 * (st.length + 1 - (dec st).length) + 2 ∧ tree_Depth.l1 k (most : Int) (encS (0 :: st)) l0 (l0.length : Int) (i : Int) = (match dec st with | [] => some (most : Int) | s :: st' => tree_Depth.l0 k' (most : Int) (encS (s :: st')) l0 (l0.length : Int) (wrap64 ((i : Int) + 1))) := by
  intro st
  induction st with
  | nil =>
    intro k _ _ hk
    obtain ⟨k, rfl⟩ : ∃ j, k = j + 4 := ⟨k - 4, by omega⟩
    refine ⟨k, by simp only [dec, List.length_nil]; omega, ?_⟩
    simp [tree_Depth.l1, tree_Depth.j2, encS, dec, rd, wrap64]
  | cons c st ih =>
    intro k hs hl hk
    rw [List.length_cons] at hl hk
    obtain ⟨k, rfl⟩ : ∃ j, k = j + 2 := ⟨k - 2, by omega⟩
    have hc := hs c List.mem_cons_self
    have e1 : encS (0 :: c :: st) = encS (c :: st) ++ [(0 : Int)] := rfl
    have len1 : (encS (0 :: c :: st)).length = st.length + 2 := by rw [encS_len]; rfl
    have hw : wrap64 (((st.length + 2 : Nat) : Int) - 1) = ((st.length + 1 : Nat) : Int) := by rw [wrap_id (by omega) (by omega)]; omega
    have hr : rd (encS (0 :: c :: st)) ((st.length + 1 : Nat) : Int) = 0 := by
      have := rd_last (encS (c :: st)) 0
      rw [encS_len, List.length_cons] at this
      exact this
    have ht : (encS (0 :: c :: st)).take (((st.length + 1 : Nat) : Int)).toNat = encS (c :: st) := by
      rw [Int.toNat_natCast, e1, List.take_append_of_le_length (by rw [encS_len, List.length_cons]; omega), List.take_of_length_le (by rw [encS_len, List.length_cons]; omega)]
    have len2 : (encS (c :: st)).length = st.length + 1 := by rw [encS_len]; rfl
    have hw2 : wrap64 (((st.length + 1 : Nat) : Int) - 1) = (st.length : Int) := by rw [wrap_id (by omega) (by omega)]; omega
    have hr2 : rd (encS (c :: st)) (st.length : Int) = (c : Int) := by
      have := rd_last (encS st) (c : Int)
      rw [encS_len] at this
      exact this
    have hw3 : wrap64 ((c : Int) - 1) = ((c - 1 : Nat) : Int) := by rw [wrap_id (by omega) (by omega)]; omega
    have hset : (encS (c :: st)).set ((st.length : Int)).toNat ((c - 1 : Nat) : Int) = encS ((c - 1) :: st) := by
      rw [Int.toNat_natCast]
      simp only [encS]
      rw [List.set_append_right _ _ (by rw [encS_len]; omega), encS_len, Nat.sub_self]
      rfl
    have step : tree_Depth.l1 (k + 2) (most : Int) (encS (0 :: c :: st)) l0 (l0.length : Int) (i : Int) = tree_Depth.l1 k (most : Int) (encS ((c - 1) :: st)) l0 (l0.length : Int) (i : Int) := by
      rw [tree_Depth.l1, len1, hw, hr, tree_Depth.j2, len1, hw, ht]
      simp only [Option.bind_some]
      rw [len2, hw2, hr2, hw3, hset]
      clear hw hw2 hw3
      rw [if_pos (by omega), if_pos (by omega), if_pos (by omega), if_pos (by rfl), if_pos (by omega), if_pos (by omega), if_pos (by omega), if_pos (by omega), if_pos (by omega)]
    rw [step]
    clear hw hw2 hw3
    simp only [dec]
    by_cases h1 : c ≤ 1
    · rw [if_pos h1]
      have e : c - 1 = 0 := by omega
      rw [e]
      obtain ⟨k', hk', he⟩ := ih k (fun d hd => hs d (List.mem_cons_of_mem _ hd)) (by omega) (by omega)
      have hdl := dec_len st
      exact ⟨k', by rw [List.length_cons]; omega, he⟩
    · rw [if_neg h1]
      obtain ⟨k, rfl⟩ : ∃ j, k = j + 2 := ⟨k - 2, by omega⟩
      exact ⟨k, by simp only [List.length_cons]; omega, Depth_open l0 i most (c - 1) st k (by omega) (by omega)⟩
theorem Depth_l0 (l0 : List Nd) (hl : l0.length ≤ 1000000) : ∀ (l : List Nd) (i most k : Nat) (st : List Nat), l0.drop i = l → i ≤ l0.length → (∀ c ∈ st, 1 ≤ c ∧ c ≤ 3) → st.length ≤ i → (endW kdT l (need st)).isSome = true → 5 * l.length + 2 * st.length + 8 ≤ k →
    tree_Depth.l0 k (most : Int) (encS st) l0 (l0.length : Int) (i : Int) = some ((mach kdT l st most : Nat) : Int) := by
  intro l
  induction l with
  | nil =>
    intro i most k st hd hi hs hsl he hk
    have := need_pos st
    obtain ⟨n, hn⟩ : ∃ n, need st = n + 1 := ⟨need st - 1, by omega⟩
    rw [hn] at he
    cases he
  | cons x l ih =>
    intro i most k st hd hi hs hsl he hk
    rw [List.length_cons] at hk
    obtain ⟨k, rfl⟩ : ∃ j, k = j + 1 := ⟨k - 1, by omega⟩
    obtain ⟨hr, hlt, hd2⟩ := rd_drop l0 i x l hd
    have hp := need_pos st
    obtain ⟨n, hn⟩ : ∃ n, need st = n + 1 := ⟨need st - 1, by omega⟩
    have hb := kdB_bounds x.f0 x.f1
    have hk1 : kdT x = kdB x.f0 x.f1 := rfl
    rw [hn] at he
    simp only [endW] at he
    by_cases hx : kdT x < 0
    · rw [if_pos hx] at he; cases he
    rw [if_neg hx] at he
    have he2 : (endW kdT l (n + (kdT x).toNat)).isSome = true := by
      cases h : endW kdT l (n + (kdT x).toNat) with
      | none => rw [h] at he; cases he
      | some m => rfl
    obtain ⟨c, hc⟩ : ∃ c, (kdT x).toNat = c := ⟨_, rfl⟩
    have hkc : kdB x.f0 x.f1 = (c : Int) := by omega
    have henc : encS st ++ [(c : Int)] = encS (c :: st) := rfl
    have hlen : (encS (c :: st)).length = st.length + 1 := by rw [encS_len]; rfl
    have hlim : (encS st).length < 17592186044416 := Nat.lt_of_le_of_lt (by rw [encS_len]; omega : (encS st).length ≤ 1000000) (by decide)
    simp only [tree_Depth.l0]
    rw [if_pos (by omega), if_pos (by omega), if_pos (by omega), hr, Kids_eq _ _ _ _ _ k (by omega), hkc]
    simp only [Option.bind_some]
    rw [if_pos hlim, henc, hlen, mx_nat]
    clear hlim
    by_cases h0 : c = 0
    · subst h0
      obtain ⟨k', hk', e⟩ := Depth_done l0 i (max most (st.length + 1)) st k hs (by omega) (by omega)
      have w1 : wrap64 ((i : Int) + 1) = ((i + 1 : Nat) : Int) := by rw [wrap_id (by omega) (by omega)]; omega
      rw [e, w1, mach_cons0 kdT x l st most hc]
      clear w1 e
      unfold fin
      have hdl := dec_len st
      have hdn := dec_need st (fun d hd => (hs d hd).1)
      cases hds : dec st with
      | nil => rfl
      | cons s st' =>
        simp only []
        have h3 := dec_le3 st hs
        rw [hds] at h3 hdl hdn hk'
        have hne := hdn.2.1 (by simp)
        simp only [List.length_cons] at hdl hk'
        exact ih (i + 1) (max most (st.length + 1)) k' (s :: st') hd2 (by omega) h3 (by rw [List.length_cons]; omega) (by rw [hne, hn]; rw [hc] at he2; simpa using he2) (by rw [List.length_cons]; omega)
    · obtain ⟨k, rfl⟩ : ∃ j, k = j + 2 := ⟨k - 2, by omega⟩
      have hdo := Depth_open l0 i (max most (st.length + 1)) c st k (by omega) (by omega)
      have hms := mach_consS kdT x l st most (by omega)
      have w1 : wrap64 ((i : Int) + 1) = ((i + 1 : Nat) : Int) := by rw [wrap_id (by omega) (by omega)]; omega
      rw [hdo, w1, hms, hc]
      clear w1 hdo hms
      exact ih (i + 1) _ k (c :: st) hd2 (by omega) (by
        intro d hd
        rcases List.mem_cons.1 hd with e | e
        · omega
        · exact hs d e) (by rw [List.length_cons]; omega) (by
        simp only [need]
        rw [hn, show c - 1 + (n + 1) = n + c by omega, ← hc]
        exact he2) (by rw [List.length_cons]; omega)
theorem Depth_eq (l0 : List Nd) (hl : l0.length ≤ 1000000) (k : Nat) (hk : 5 * l0.length + 10 ≤ k) : tree_Depth.f k l0 = some ((depL kdT l0 : Nat) : Int) := by
  unfold tree_Depth.f depL
  have e0 : (0 : Int) = ((0 : Nat) : Int) := rfl
  have := End_eq l0 hl 0 (by omega) k (by omega)
  rw [List.drop_zero, ← e0] at this
  rw [this]
  simp only [Option.bind_some]
  cases h : endW kdT l0 1 with
  | none => simp [outE]
  | some m =>
    simp only [outE]
    rw [if_pos trivial]
    exact Depth_l0 l0 hl l0 0 0 k [] rfl (by omega) (fun c hc => by cases hc) (by simp) (by simp only [need]; rw [h]; rfl) (by rw [List.length_nil]; omega)
end Go.Proofs.Ytdelccahgchadaa
end
section
namespace Go.Proofs.Ytdelccahgchadaa
open Go.RowKit Go.Lib Go.Proofs.Ytdelccahgchadaa.P Go.Proofs.YtdelccahgchadaaW.PrintWords Go.Proofs.YtdelccahgchadaaW.PrintMore
set_option linter.unusedVariables false
abbrev Bs := List UInt8
abbrev L (s : ByteArray) : Bs := s.data.toList
theorem L_size (s : ByteArray) : s.size = (L s).length := by simp
theorem L_append (a b : ByteArray) : L (a ++ b) = L a ++ L b := by simp
theorem L_ext {a b : ByteArray} (h : L a = L b) : a = b := by
  cases a; cases b; congr 1; exact Array.toList_inj.1 h
theorem L_mk (l : Bs) : L ⟨l.toArray⟩ = l := rfl
theorem L_extract (s : ByteArray) (a b : Nat) : L (s.extract a b) = ((L s).drop a).take (b - a) := Lib.extract_data s a b
theorem L_end (s : ByteArray) (a : Nat) : L (s.extract a s.size) = (L s).drop a := Lib.extract_to_end s a
theorem L_bt (s : ByteArray) (i : Nat) (h : i < (L s).length) : bt s (i : Int) = ((L s)[i].toNat : Int) := by
  unfold bt
  rw [dif_pos (by simpa using h)]
  rfl
theorem toList_L (s : ByteArray) : s.toList = L s := Go.ByteArray.toList_eq s
def trimC (c : UInt8) : Bs → Bs
  | [] => []
  | x :: l => if x = c then l else x :: l
theorem trimC_eq (c : UInt8) (l : Bs) : Lib.trimPrefix l [c] = trimC c l := by
  unfold Lib.trimPrefix Lib.hasPrefix
  cases l with
  | nil => rfl
  | cons x l =>
    by_cases h : x = c
    · subst h; simp [trimC]
    · have h2 : ¬ c = x := fun h2 => h h2.symm
      simp [trimC, h, h2]
def runL (p : Int → Bool) (l : Bs) : Nat := (l.takeWhile fun c => p (c.toNat : Int)).length
theorem runN_eq (p : Int → Bool) (s : ByteArray) : Ytdelccahgchadaa.P.runN p s = runL p (L s) := rfl
theorem runL_le (p : Int → Bool) (l : Bs) : runL p l ≤ l.length := by
  unfold runL
  exact List.Sublist.length_le (List.takeWhile_sublist _)
theorem runL_cons (p : Int → Bool) (c : UInt8) (l : Bs) : runL p (c :: l) = if p (c.toNat : Int) = true then runL p l + 1 else 0 := by
  unfold runL
  rw [List.takeWhile_cons]
  split <;> simp
theorem runL_all (p : Int → Bool) (l : Bs) : runL p l = l.length ↔ l.all (fun c => p (c.toNat : Int)) = true := by
  induction l with
  | nil => simp [runL]
  | cons x l ih =>
    rw [runL_cons, List.all_cons]
    by_cases hp : p (x.toNat : Int) = true
    · rw [if_pos hp, hp, Bool.true_and, ← ih, List.length_cons]; omega
    · rw [if_neg hp]
      have : p (x.toNat : Int) = false := by simpa using hp
      rw [this, Bool.false_and, List.length_cons]
      constructor
      · intro h; omega
      · intro h; cases h
def figs (l : Bs) : Bool := l.all isFig
theorem isFig_isD (c : UInt8) : isFig c = isD (c.toNat : Int) := by
  unfold isFig isD
  rw [Bool.eq_iff_iff]
  simp
  omega
theorem figs_run (l : Bs) : figs l = true ↔ runL isD l = l.length := by
  rw [runL_all]
  unfold figs
  have : isFig = fun c : UInt8 => isD (c.toNat : Int) := funext isFig_isD
  rw [this]
def mayB (l : Bs) : Bool :=
  let f := trimC 45 l
  decide (1 ≤ f.length) && decide (f.length ≤ 100) && (!(f.head? == some 48) || l == [48]) && figs f
def numberL (l : Bs) : Option Bs :=
  let f := trimC 95 l
  let n := if f = l then f else 45 :: f
  if figs f && mayB n then some n else none
def signsL : Bs := [43, 45, 42, 37, 33, 38, 124, 60, 62, 61, 126, 44, 35, 94, 36, 63, 64]
def advsL : Bs := [39, 47, 92, 46, 96]
def marksL : Bs := [40, 41, 91, 93, 123, 125, 58]
def firstL (l : Bs) : Nat × Nat :=
  match l with
  | [] => (0, 0)
  | c :: _ =>
    if isLow (c.toNat : Int) = true then (2, runL isWordC l)
    else if isUp (c.toNat : Int) = true then (3, runL isVerbC l)
    else if signsL.contains c then (4, 1)
    else if advsL.contains c then (5, 1)
    else if marksL.contains c then (6, 1)
    else let f := trimC 95 l
      let n := l.length - f.length + runL isD f
      if (numberL (l.take n)).isSome then (1, n) else (0, 0)
structure Tk where
  kind : Nat
  text : Bs
  pos : Nat
deriving DecidableEq
def lexF : Nat → Nat → Bs → Nat ⊕ List Tk
  | 0, p, _ => .inl p
  | _ + 1, _, [] => .inr []
  | f + 1, p, c :: l =>
    if c = 32 then lexF f (p + 1) l
    else
      let k := (firstL (c :: l)).1
      let n := (firstL (c :: l)).2
      if k = 0 then .inl p
      else match lexF f (p + n) ((c :: l).drop n) with
        | .inl e => .inl e
        | .inr ts => .inr (⟨k, (c :: l).take n, p⟩ :: ts)
theorem trimC_len (c : UInt8) (l : Bs) : (trimC c l).length ≤ l.length ∧ l.length ≤ (trimC c l).length + 1 := by
  cases l with
  | nil => simp [trimC]
  | cons x l =>
    by_cases h : x = c
    · simp [trimC, h]
    · simp [trimC, h]
theorem runL_pos (p : Int → Bool) (c : UInt8) (l : Bs) (h : p (c.toNat : Int) = true) : 1 ≤ runL p (c :: l) := by
  rw [runL_cons, if_pos h]; omega
theorem low_word {c : Int} (h : isLow c = true) : isWordC c = true := by unfold isWordC; rw [h]; rfl
theorem up_verb {c : Int} (h : isUp c = true) : isVerbC c = true := by unfold isVerbC; rw [h]; simp
theorem numberL_take_pos {l : Bs} {n : Nat} (h : (numberL (l.take n)).isSome = true) : 1 ≤ n := by
  cases n with
  | zero => rw [List.take_zero] at h; revert h; decide
  | succ n => omega
theorem firstL_bounds (c : UInt8) (l : Bs) (h : (firstL (c :: l)).1 ≠ 0) : 1 ≤ (firstL (c :: l)).2 ∧ (firstL (c :: l)).2 ≤ (c :: l).length ∧ (firstL (c :: l)).1 ≤ 6 := by
  unfold firstL at h ⊢
  simp only [] at h ⊢
  by_cases h1 : isLow (c.toNat : Int) = true
  · rw [if_pos h1]; exact ⟨runL_pos _ _ _ (low_word h1), runL_le _ _, by simp⟩
  · rw [if_neg h1] at h ⊢
    by_cases h2 : isUp (c.toNat : Int) = true
    · rw [if_pos h2]; exact ⟨runL_pos _ _ _ (up_verb h2), runL_le _ _, by simp⟩
    · rw [if_neg h2] at h ⊢
      by_cases h3 : signsL.contains c = true
      · rw [if_pos h3]; simp
      · rw [if_neg h3] at h ⊢
        by_cases h4 : advsL.contains c = true
        · rw [if_pos h4]; simp
        · rw [if_neg h4] at h ⊢
          by_cases h5 : marksL.contains c = true
          · rw [if_pos h5]; simp
          · rw [if_neg h5] at h ⊢
            by_cases h6 : (numberL ((c :: l).take ((c :: l).length - (trimC 95 (c :: l)).length + runL isD (trimC 95 (c :: l))))).isSome = true
            · rw [if_pos h6]
              have a := trimC_len 95 (c :: l)
              have b := runL_le isD (trimC 95 (c :: l))
              exact ⟨numberL_take_pos h6, by simp only []; omega, by simp⟩
            · rw [if_neg h6] at h; exact absurd rfl h
end Go.Proofs.Ytdelccahgchadaa
end
section
namespace Go.Proofs.Ytdelccahgchadaa
open Go.RowKit Go.Lib Go.Proofs.Ytdelccahgchadaa.P Go.Proofs.YtdelccahgchadaaW.PrintWords Go.Proofs.YtdelccahgchadaaW.PrintMore
set_option linter.unusedVariables false
deriving instance DecidableEq for Sum
def lexL (l : Bs) : Nat ⊕ List Tk := lexF (l.length + 1) 0 l
end Go.Proofs.Ytdelccahgchadaa
end
section
namespace Go.Proofs.Ytdelccahgchadaa
open Go.RowKit Go.Lib Go.Proofs.Ytdelccahgchadaa.P Go.Proofs.YtdelccahgchadaaW.PrintWords Go.Proofs.YtdelccahgchadaaW.PrintMore
set_option linter.unusedVariables false
abbrev mkB (l : Bs) : ByteArray := ⟨l.toArray⟩
theorem mkB_L (s : ByteArray) : mkB (L s) = s := L_ext rfl
theorem trimP (s : ByteArray) (c : UInt8) : strings_TrimPrefix.f s ⟨#[c]⟩ = some (mkB (trimC c (L s))) := by
  unfold strings_TrimPrefix.f
  have : (⟨#[c]⟩ : ByteArray).data.toList = [c] := rfl
  rw [this, trimC_eq]
theorem mkB_size (l : Bs) : (mkB l).size = l.length := by simp [ByteArray.size]
theorem bt_head (c : UInt8) (l : Bs) : bt (mkB (c :: l)) 0 = (c.toNat : Int) := by
  have := L_bt (mkB (c :: l)) 0 (by simp)
  exact this
theorem allFig_L (s : ByteArray) : allFig s = figs (L s) := rfl
theorem byte_iff (c d : UInt8) : ((c.toNat : Int) = (d.toNat : Int)) ↔ c = d := by
  constructor
  · intro h; exact UInt8.toNat_inj.1 (by omega)
  · rintro rfl; rfl
theorem May_eq (s : ByteArray) : num_May.f s = some (mayB (L s)) := by
  unfold num_May.f mayB
  rw [trimP]
  simp only [Option.bind_some, mkB_size]
  obtain ⟨f, hf⟩ : ∃ f, trimC 45 (L s) = f := ⟨_, rfl⟩
  rw [hf]
  cases f with
  | nil => simp
  | cons c f =>
    rw [if_neg (by rw [List.length_cons]; omega)]
    by_cases h : (c :: f).length ≤ 100
    · rw [if_neg (by omega), if_pos (by rw [List.length_cons]; omega), bt_head]
      unfold ContainsFunc_May.f
      rw [allFig_L, L_mk]
      have e1 : decide (1 ≤ (c :: f).length) = true := by simp
      have e2 : decide ((c :: f).length ≤ 100) = true := by simpa using h
      rw [e1, e2]
      by_cases hc : c = 48
      · subst hc
        rw [if_pos (by decide), toList_L]
        by_cases h0 : L s = [48]
        · rw [if_pos h0, h0]; simp
        · rw [if_neg h0]
          have : (L s == [48]) = false := by simpa using h0
          rw [this]; simp
      · have hne : ¬ ((c.toNat : Int) = 48) := fun h' => hc ((byte_iff c 48).1 h')
        rw [if_neg hne]
        have : ((c :: f).head? == some 48) = false := by simpa using hc
        rw [this]; simp
    · rw [if_pos (by omega)]
      have e2 : decide ((c :: f).length ≤ 100) = false := by simpa using h
      rw [e2]; simp
def outN (o : Option Bs) : ByteArray × Bool := match o with | some n => (mkB n, true) | none => (⟨#[]⟩, false)
theorem number_eq (s : ByteArray) (hs : s.size ≤ 140737488351232) (k : Nat) (hk : 1 ≤ k) : lex_Number.f k s = some (outN (numberL (L s))) := by
  obtain ⟨k, rfl⟩ : ∃ j, k = j + 1 := ⟨k - 1, by omega⟩
  unfold lex_Number.f numberL
  rw [trimP]
  simp only [Option.bind_some, mkB_size, toList_L, L_mk]
  obtain ⟨f, hf⟩ : ∃ f, trimC 95 (L s) = f := ⟨_, rfl⟩
  have hl := trimC_len 95 (L s)
  rw [← L_size] at hl
  rw [hf] at hl ⊢
  have hj : ∀ n : Bs, lex_Number.j0 (k + 1) (mkB f) (mkB n) = some (outN (if figs f && mayB n then some n else none)) := by
    intro n
    simp only [lex_Number.j0, run_figure.f, runO, May_eq, L_mk, mkB_size]
    rw [if_pos (by omega), runN_eq, L_mk]
    simp only [Option.bind_some]
    by_cases h : figs f = true
    · rw [h, if_pos (by rw [(figs_run f).1 h])]
      cases mayB n with
      | true => rfl
      | false => rfl
    · rw [if_neg (fun h' => h ((figs_run f).2 (by omega)))]
      have : figs f = false := by simpa using h
      rw [this]; rfl
  by_cases h : f = L s
  · rw [if_pos h, if_pos h, hj]
  · rw [if_neg h, if_neg h, if_pos (by omega)]
    have e : (⟨#[45]⟩ : ByteArray) ++ mkB f = mkB (45 :: f) := L_ext (by rw [L_append]; rfl)
    rw [e, hj]
theorem indexB_iff (l : Bs) (c : UInt8) : ∃ t, strings_IndexByte.f (mkB l) (c.toNat : Int) = some t ∧ (t ≥ 0 ↔ l.contains c = true) := by
  refine ⟨_, rfl, ?_⟩
  have e : ((c.toNat : Int).toNat.toUInt8) = c := Lib.byte_back' c
  have e2 : (mkB l).data.toList = l := rfl
  rw [e, e2, Lib.contains_iff_indexByte]
  simp
theorem first_eq (s : ByteArray) (h0 : 0 < s.size) (hs : s.size ≤ 256) (k : Nat) (hk : 1 ≤ k) : lex_first.f k s = some (((firstL (L s)).1 : Int), ((firstL (L s)).2 : Int)) := by
  obtain ⟨l, hl⟩ : ∃ l, L s = l := ⟨_, rfl⟩
  obtain rfl : s = mkB l := by rw [← hl, mkB_L]
  clear hl
  rw [mkB_size] at h0 hs
  cases l with
  | nil => simp at h0
  | cons c l =>
    unfold lex_first.f firstL
    simp only [L_mk]
    rw [if_pos (by rw [mkB_size]; omega), bt_head]
    have hS : lex_small.f (c.toNat : Int) = some (isLow (c.toNat : Int)) := by
      unfold lex_small.f isLow
      by_cases h : (c.toNat : Int) ≥ 97
      · rw [if_pos h]; congr 1; rw [Bool.eq_iff_iff, decide_eq_true_iff, decide_eq_true_iff]; omega
      · rw [if_neg h]; congr 1; rw [Bool.eq_iff_iff, decide_eq_true_iff]; simp; omega
    have hG : lex_great.f (c.toNat : Int) = some (isUp (c.toNat : Int)) := by
      unfold lex_great.f isUp
      by_cases h : (c.toNat : Int) ≥ 65
      · rw [if_pos h]; congr 1; rw [Bool.eq_iff_iff, decide_eq_true_iff, decide_eq_true_iff]; omega
      · rw [if_neg h]; congr 1; rw [Bool.eq_iff_iff, decide_eq_true_iff]; simp; omega
    rw [hS, hG]
    simp only [Option.bind_some]
    by_cases h1 : isLow (c.toNat : Int) = true
    · rw [if_pos h1, if_pos h1]
      simp only [run_word.f, runO]
      rw [if_pos (by rw [mkB_size]; omega)]
      rfl
    rw [if_neg h1, if_neg h1]
    by_cases h2 : isUp (c.toNat : Int) = true
    · rw [if_pos h2, if_pos h2]
      simp only [run_verb.f, runO]
      rw [if_pos (by rw [mkB_size]; omega)]
      rfl
    rw [if_neg h2, if_neg h2]
    obtain ⟨t3, e3, i3⟩ := indexB_iff signsL c
    obtain ⟨t4, e4, i4⟩ := indexB_iff advsL c
    obtain ⟨t5, e5, i5⟩ := indexB_iff marksL c
    have e3' : strings_IndexByte.f (⟨#[43, 45, 42, 37, 33, 38, 124, 60, 62, 61, 126, 44, 35, 94, 36, 63, 64]⟩ : ByteArray) (c.toNat : Int) = some t3 := e3
    have e4' : strings_IndexByte.f (⟨#[39, 47, 92, 46, 96]⟩ : ByteArray) (c.toNat : Int) = some t4 := e4
    have e5' : strings_IndexByte.f (⟨#[40, 41, 91, 93, 123, 125, 58]⟩ : ByteArray) (c.toNat : Int) = some t5 := e5
    rw [e3', e4', e5', trimP]
    simp only [Option.bind_some, L_mk]
    by_cases h3 : t3 ≥ 0
    · rw [if_pos h3, if_pos (i3.1 h3)]; rfl
    rw [if_neg h3, if_neg (fun h => h3 (i3.2 h))]
    by_cases h4 : t4 ≥ 0
    · rw [if_pos h4, if_pos (i4.1 h4)]; rfl
    rw [if_neg h4, if_neg (fun h => h4 (i4.2 h))]
    by_cases h5 : t5 ≥ 0
    · rw [if_pos h5, if_pos (i5.1 h5)]; rfl
    rw [if_neg h5, if_neg (fun h => h5 (i5.2 h))]
    have hl := trimC_len 95 (c :: l)
    obtain ⟨f, hf⟩ : ∃ f, trimC 95 (c :: l) = f := ⟨_, rfl⟩
    rw [hf] at hl ⊢
    have hr := runL_le isD f
    have er : run_figure.f (mkB f) = some (runL isD f : Int) := by
      simp only [run_figure.f, runO]
      rw [if_pos (by rw [mkB_size]; omega)]
      rfl
    rw [er]
    simp only [Option.bind_some, mkB_size]
    obtain ⟨n, hn⟩ : ∃ n, (c :: l).length - f.length + runL isD f = n := ⟨_, rfl⟩
    have hw : wrap64 (wrap64 (((c :: l).length : Int) - (f.length : Int)) + (runL isD f : Int)) = (n : Int) := by
      rw [wrap_id (a := ((c :: l).length : Int) - (f.length : Int)) (by omega) (by omega), wrap_id (by omega) (by omega)]; omega
    rw [hw, if_pos (by omega), if_pos (by omega)]
    have hx : (mkB (c :: l)).extract 0 (n : Int).toNat = mkB ((c :: l).take n) := L_ext (by rw [L_extract]; simp [L_mk])
    rw [hx, number_eq _ (by rw [mkB_size, List.length_take]; omega) k hk, L_mk, hn]
    simp only [Option.bind_some]
    cases hN : numberL ((c :: l).take n) with
    | none => rfl
    | some m => rfl
def encT (t : Tk) : S71 := ⟨(t.kind : Int), mkB t.text, (t.pos : Int)⟩
def outL (o : Nat ⊕ List Tk) : List S71 × Int × Int := match o with | .inl e => ([], (e : Int), 2) | .inr ts => (ts.map encT, 0, 0)
theorem lex_l0 (s : ByteArray) (hs : s.size ≤ 256) : ∀ (m k p : Nat) (acc : List S71), p ≤ s.size → s.size - p < m → s.size - p + 1 < k → acc.length ≤ p →
    lex_Lex.l0 k s acc (p : Int) = some (match lexF m p ((L s).drop p) with | .inl e => ([], (e : Int), 2) | .inr ts => (acc ++ ts.map encT, 0, 0)) := by
  intro m
  induction m with
  | zero => intro k p acc _ h; omega
  | succ m ih =>
    intro k p acc hp hm hk ha
    obtain ⟨k, rfl⟩ : ∃ j, k = j + 1 := ⟨k - 1, by omega⟩
    have hlen : ((L s).drop p).length = s.size - p := by rw [List.length_drop, ← L_size]
    simp only [lex_Lex.l0]
    cases hl : (L s).drop p with
    | nil =>
      rw [hl, List.length_nil] at hlen
      rw [if_neg (by omega)]
      simp [lexF]
    | cons c l =>
      rw [hl, List.length_cons] at hlen
      have hpl : p < (L s).length := by rw [← L_size]; omega
      have hg : (L s)[p] = c := by
        have := List.drop_eq_getElem_cons hpl
        rw [hl] at this
        injection this with h1 h2
        exact h1.symm
      rw [if_pos (by omega), if_pos (by omega), if_pos (by decide), L_bt s p hpl, hg]
      have e32 : bt (⟨#[32]⟩ : ByteArray) 0 = ((32 : UInt8).toNat : Int) := by decide
      rw [e32]
      simp only [lexF]
      by_cases hc : c = 32
      · rw [if_pos (by rw [hc]), if_pos hc, wrap_id (by omega) (by omega)]
        have := ih k (p + 1) acc (by omega) (by omega) (by omega) (by omega)
        have hd : (L s).drop (p + 1) = l := by rw [← List.drop_drop, hl]; rfl
        rw [hd] at this
        exact_mod_cast this
      · rw [if_neg (fun h => hc ((byte_iff c 32).1 h)), if_neg hc, if_pos (by omega)]
        have hx : s.extract (p : Int).toNat s.size = mkB (c :: l) := L_ext (by rw [L_end, L_mk, Int.toNat_natCast, hl])
        rw [hx, first_eq _ (by rw [mkB_size, List.length_cons]; omega) (by rw [mkB_size, List.length_cons]; omega) k (by omega), L_mk]
        simp only [Option.bind_some]
        by_cases h0 : (firstL (c :: l)).1 = 0
        · rw [if_pos (by omega), if_pos h0]
        · have hb := firstL_bounds c l h0
          rw [if_neg (by omega), if_neg h0]
          obtain ⟨kk, hkk⟩ : ∃ kk, (firstL (c :: l)).1 = kk := ⟨_, rfl⟩
          obtain ⟨n, hn⟩ : ∃ n, (firstL (c :: l)).2 = n := ⟨_, rfl⟩
          rw [hkk, hn] at hb ⊢
          rw [List.length_cons] at hb
          have hw : wrap64 ((p : Int) + (n : Int)) = ((p + n : Nat) : Int) := by rw [wrap_id (by omega) (by omega)]; omega
          have hacc : acc.length < 4398046511104 := Nat.lt_of_le_of_lt ha (Nat.lt_of_le_of_lt hp (Nat.lt_of_le_of_lt hs (by decide)))
          rw [hw]
          clear hw
          rw [if_pos (by omega), if_pos (by omega), if_pos hacc]
          have hy : s.extract (p : Int).toNat ((p + n : Nat) : Int).toNat = mkB ((c :: l).take n) := L_ext (by
            rw [L_extract, L_mk, Int.toNat_natCast, Int.toNat_natCast, hl, Nat.add_sub_cancel_left])
          rw [hy]
          have hd : (L s).drop (p + n) = (c :: l).drop n := by rw [← List.drop_drop, hl]
          have := ih k (p + n) (acc ++ [(⟨(kk : Int), mkB ((c :: l).take n), (p : Int)⟩ : S71)]) (by omega) (by omega) (by omega) (by rw [List.length_append, List.length_singleton]; omega)
          rw [hd] at this
          rw [this]
          cases lexF m (p + n) ((c :: l).drop n) with
          | inl e => rfl
          | inr ts => simp [encT]
theorem lex_eq (s : ByteArray) (hs : s.size ≤ 256) (k : Nat) (hk : 258 < k) : lex_Lex.f k s = some (outL (lexL (L s))) := by
  unfold lex_Lex.f lexL
  rw [if_neg (by omega)]
  have := lex_l0 s hs (s.size + 1) k 0 [] (by omega) (by omega) (by omega) (by simp)
  rw [List.drop_zero] at this
  have e : ((0 : Nat) : Int) = 0 := rfl
  rw [e] at this
  rw [this, ← L_size]
  cases lexF (s.size + 1) 0 (L s) with
  | inl e => rfl
  | inr ts => rfl
theorem lex_big (s : ByteArray) (hs : 256 < s.size) (k : Nat) : lex_Lex.f k s = some ([], 0, 8) := by
  unfold lex_Lex.f
  rw [if_pos (by omega)]
end Go.Proofs.Ytdelccahgchadaa
end
section
namespace Go.Proofs.Ytdelccahgchadaa
open Go.RowKit Go.Lib Go.Proofs.Ytdelccahgchadaa.P Go.Proofs.YtdelccahgchadaaW.PrintWords Go.Proofs.YtdelccahgchadaaW.PrintMore
set_option linter.unusedVariables false
def isB (s : ByteArray) (kind : Int) : Bool :=
  if s.size ≤ 256 then (match lexL (L s) with | .inr [t] => t.text == L s && decide ((t.kind : Int) = kind) | _ => false) else false
theorem is_eq (s : ByteArray) (kind : Int) (k : Nat) (hk : 258 < k) : tree_is.f k s kind = some (isB s kind) := by
  unfold tree_is.f isB
  by_cases hs : s.size ≤ 256
  · rw [if_pos hs, lex_eq s hs k hk]
    cases lexL (L s) with
    | inl e => simp [outL]
    | inr ts =>
      cases ts with
      | nil => simp [outL]
      | cons t ts =>
        cases ts with
        | nil =>
          simp only [outL, Option.bind_some, List.map_cons, List.map_nil, List.length_singleton]
          rw [if_pos trivial, if_pos (by decide), if_pos (by decide)]
          have q1 : (rd_T71 [encT t] 0).f1.toList = t.text := by
            have : (rd_T71 [encT t] 0).f1 = mkB t.text := rfl
            rw [this, toList_L]
          have q2 : (rd_T71 [encT t] 0).f0 = (t.kind : Int) := rfl
          rw [q1, q2, toList_L]
          by_cases h : t.text = L s
          · rw [if_pos h, h]; simp
            rfl
          · rw [if_neg h]
            have : (t.text == L s) = false := by simpa using h
            rw [this]; rfl
        | cons u ts =>
          simp only [outL, Option.bind_some, List.map_cons, List.length_cons]
          rw [if_pos trivial, if_neg (by omega)]
  · rw [if_neg hs, lex_big s (by omega)]
    simp
def verbB (s : ByteArray) : Bool := s.toList == ([123] : List UInt8) || isB s 4 || isB s 3
theorem verb_eq (s : ByteArray) (k : Nat) (hk : 258 < k) : tree_verb.f k s = some (verbB s) := by
  unfold tree_verb.f verbB
  by_cases h : s.toList = ([123] : List UInt8)
  · rw [if_pos h, h]; rfl
  · rw [if_neg h, is_eq s 4 k hk, is_eq s 3 k hk]
    have : (s.toList == ([123] : List UInt8)) = false := by simpa using h
    rw [this]
    cases isB s 4 <;> simp
def advB (s of : ByteArray) : Bool := s.toList == ([] : List UInt8) || (match L s with | [c] => (L of).contains c | _ => false)
theorem adv_eq (s of : ByteArray) : tree_adv.f s of = some (advB s of) := by
  unfold tree_adv.f advB
  by_cases h : s.toList = ([] : List UInt8)
  · rw [if_pos h, h]; rfl
  · rw [if_neg h]
    have h2 : (s.toList == ([] : List UInt8)) = false := by simpa using h
    rw [h2, Bool.false_or]
    have hz : s.size = (L s).length := L_size s
    unfold strings_Contains.f
    by_cases h1 : (s.size : Int) = 1
    · rw [if_pos h1]
      obtain ⟨c, hc⟩ : ∃ c, L s = [c] := by
        cases hl : L s with
        | nil => rw [hl, List.length_nil] at hz; omega
        | cons c l =>
          cases l with
          | nil => exact ⟨c, rfl⟩
          | cons d l => rw [hl, List.length_cons, List.length_cons] at hz; omega
      have hc2 : s.data.toList = [c] := hc
      rw [hc2, hc]
      simp
    · rw [if_neg h1]
      cases hl : L s with
      | nil => rfl
      | cons c l =>
        cases l with
        | nil => rw [hl, List.length_singleton] at hz; omega
        | cons d l => rfl
end Go.Proofs.Ytdelccahgchadaa
end
section
namespace Go.Proofs.Ytdelccahgchadaa
open Go.RowKit Go.Lib Go.Proofs.Ytdelccahgchadaa.P Go.Proofs.YtdelccahgchadaaW.PrintWords Go.Proofs.YtdelccahgchadaaW.PrintMore
set_option linter.unusedVariables false
theorem rdS_get (l : List ByteArray) (i : Nat) (h : i < l.length) : rdOf ByteArray.empty l (i : Int) = l[i] := by
  unfold rdOf
  rw [Int.toNat_natCast, List.getD_eq_getElem?_getD, List.getElem?_eq_getElem h]
  rfl
theorem IndexNum (l : List ByteArray) (hl : l.length ≤ 1000000) : ∀ (m i k : Nat), l.length - i < m → m ≤ k → i ≤ l.length → ∃ r, slices_IndexFunc_string_string.l0 k l (l.length : Int) (i : Int) = some r ∧ decide (r ≥ 0) = (l.drop i).any fun s => !mayB (L s) := by
  intro m
  induction m with
  | zero => intro i k h; omega
  | succ m ih =>
    intro i k h hk hi
    obtain ⟨k, rfl⟩ : ∃ j, k = j + 1 := ⟨k - 1, by omega⟩
    simp only [slices_IndexFunc_string_string.l0]
    by_cases hlt : (i : Int) < (l.length : Int)
    · have hil : i < l.length := by omega
      rw [if_pos hlt, if_pos (by omega), if_pos hlt, rdS_get l i hil, List.drop_eq_getElem_cons hil, List.any_cons]
      unfold tree_may_1.f
      rw [May_eq]
      simp only [Option.bind_some]
      cases hm : mayB (L l[i]) with
      | false => exact ⟨(i : Int), by simp, by simp⟩
      | true =>
        obtain ⟨r, h1, h2⟩ := ih (i + 1) k (by omega) (by omega) (by omega)
        refine ⟨r, ?_, by rw [h2]; simp⟩
        have hw : wrap64 ((i : Int) + 1) = ((i + 1 : Nat) : Int) := by rw [wrap_id (by omega) (by omega)]; omega
        rw [hw, h1]; rfl
    · rw [if_neg hlt, List.drop_eq_nil_of_le (by omega)]
      exact ⟨-1, rfl, rfl⟩
theorem ContainsNum (l : List ByteArray) (hl : l.length ≤ 1000000) (k : Nat) (hk : l.length + 1 ≤ k) : slices_ContainsFunc_string_string.f k l = some (l.any fun s => !mayB (L s)) := by
  unfold slices_ContainsFunc_string_string.f slices_IndexFunc_string_string.f
  obtain ⟨r, h1, h2⟩ := IndexNum l hl (l.length + 1) 0 k (by omega) hk (by omega)
  have e0 : (0 : Int) = ((0 : Nat) : Int) := rfl
  rw [e0, h1]
  rw [List.drop_zero] at h2
  simp only [Option.bind_some]
  rw [← h2]
  rfl
def noB (s : ByteArray) : Bool := s.toList == ([] : List UInt8)
def mayN (x : Nd) : Bool :=
  if x.f0 = 1 then noB x.f1 && noB x.f2 && noB x.f3 && !(x.f4.length == 0) && decide (x.f4.length ≤ 100) && !(x.f4.any fun s => !mayB (L s))
  else if x.f0 = 2 ∨ x.f0 = 5 ∨ x.f0 = 6 then noB x.f1 && noB x.f2 && x.f4.length == 0 && isB x.f3 2
  else if x.f0 = 7 then noB x.f1 && noB x.f2 && x.f4.length == 0 && isB x.f3 3
  else if x.f0 = 8 then noB x.f1 && noB x.f2 && x.f4.length == 0 && noB x.f3
  else if x.f0 = 3 then x.f4.length == 0 && noB x.f3 && verbB x.f1 && advB x.f2 ⟨#[39, 47, 92, 96]⟩
  else if x.f0 = 4 then x.f4.length == 0 && noB x.f3 && verbB x.f1 && advB x.f2 ⟨#[39, 46]⟩
  else false
theorem if_andT (a x : Bool) : (if a = true then some x else some false) = some (a && x) := by cases a <;> rfl
theorem noB_if (s : ByteArray) (x : Bool) : (if s.toList = ([] : List UInt8) then some x else some false) = some (noB s && x) := by
  unfold noB
  by_cases h : s.toList = ([] : List UInt8)
  · rw [if_pos h, h]; rfl
  · rw [if_neg h]
    have : (s.toList == ([] : List UInt8)) = false := by simpa using h
    rw [this]; rfl
theorem may_eq (x : Nd) (k : Nat) (hk : 400 < k) : tree_may.f k x.f0 x.f1 x.f2 x.f3 x.f4 = some (mayN x) := by
  obtain ⟨k, rfl⟩ : ∃ j, k = j + 2 := ⟨k - 2, by omega⟩
  obtain ⟨k0, v, a, n, l⟩ := x
  simp only []
  have key : ∀ pl : Bool, pl = (noB v && noB a) → tree_may.j0 (k + 2) ((l.length : Int) == 0) pl k0 v a n l = some (mayN ⟨k0, v, a, n, l⟩) := by
    intro pl hpl
    have hbare : ((l.length : Int) == 0) = (l.length == 0) := by
      rw [Bool.eq_iff_iff]; simp
    rw [hbare]
    simp only [tree_may.j0, tree_may.j1, is_eq _ _ k (by omega), verb_eq _ k (by omega), adv_eq, Option.bind_some, if_andT, noB_if, mayN, ← hpl]
    have hcn : (if (l.length : Int) ≤ 100 then (slices_ContainsFunc_string_string.f (k + 1) l).bind fun t => some (!t) else some false) = some (decide (l.length ≤ 100) && !(l.any fun s => !mayB (L s))) := by
      by_cases h : l.length ≤ 100
      · rw [if_pos (by omega), ContainsNum l (by omega) (k + 1) (by omega), decide_eq_true h]
        rfl
      · rw [if_neg (by omega), decide_eq_false h]
        rfl
    rw [hcn]
    by_cases h1 : k0 = 1
    · subst h1
      cases pl <;> cases (l.length == 0) <;> by_cases hn : n.toList = [] <;> simp [noB, hn]
    rw [if_neg h1, if_neg h1]
    by_cases h2 : k0 = 2
    · subst h2; simp [Bool.and_assoc]
    by_cases h5 : k0 = 5
    · subst h5; simp [Bool.and_assoc]
    by_cases h6 : k0 = 6
    · subst h6; simp [Bool.and_assoc]
    have h256 : ¬ (k0 = 2 ∨ k0 = 5 ∨ k0 = 6) := by omega
    have hb6 : ¬ (k0 == 6) = true := by simpa using h6
    rw [if_neg h2, if_neg h5, if_neg hb6, if_neg h256]
    by_cases h7 : k0 = 7
    · subst h7; simp [Bool.and_assoc]
    rw [if_neg h7, if_neg h7]
    by_cases h8 : k0 = 8
    · subst h8; simp [Bool.and_assoc, noB]
    rw [if_neg h8, if_neg h8]
    by_cases h3 : k0 = 3
    · subst h3; simp [Bool.and_assoc]
    rw [if_neg h3, if_neg h3]
    by_cases h4 : k0 = 4
    · subst h4; simp [Bool.and_assoc]
    rw [if_neg h4, if_neg h4]
  unfold tree_may.f
  by_cases hv : v.toList = ([] : List UInt8)
  · rw [if_pos hv]
    exact key _ (by unfold noB; rw [hv]; rfl)
  · rw [if_neg hv]
    exact key _ (by
      unfold noB
      have : (v.toList == ([] : List UInt8)) = false := by simpa using hv
      rw [this]; rfl)
end Go.Proofs.Ytdelccahgchadaa
end
section
namespace Go.Proofs.Ytdelccahgchadaa
open Go.RowKit Go.Lib Go.Proofs.Ytdelccahgchadaa.P Go.Proofs.YtdelccahgchadaaW.PrintWords Go.Proofs.YtdelccahgchadaaW.PrintMore
set_option linter.unusedVariables false
def headB (x : Nd) : Bool := decide (x.f0 = 5 ∨ x.f0 = 6 ∨ x.f0 = 7)
theorem head_eq (a : Int) (b c d : ByteArray) (l : List ByteArray) : tree_head.f a b c d l = some (decide (a = 5 ∨ a = 6 ∨ a = 7)) := by
  unfold tree_head.f
  by_cases h5 : a = 5
  · subst h5; simp
  by_cases h6 : a = 6
  · subst h6; simp
  by_cases h7 : a = 7
  · subst h7; simp
  simp [h5, h6, h7]
def allN : Nat → List Nd → Bool
  | _, [] => true
  | i, x :: l => mayN x && !(headB x && decide (0 < i)) && allN (i + 1) l
theorem May_l0 (l0 : List Nd) (hl : l0.length ≤ 1000000) : ∀ (l : List Nd) (i k : Nat), l0.drop i = l → i ≤ l0.length → l.length + 410 ≤ k → tree_May.l0 k l0 (l0.length : Int) (i : Int) = some (allN i l) := by
  intro l
  induction l with
  | nil =>
    intro i k hd hi hk
    obtain ⟨k, rfl⟩ : ∃ j, k = j + 1 := ⟨k - 1, by rw [List.length_nil] at hk; omega⟩
    have : l0.length ≤ i := by
      have := congrArg List.length hd
      rw [List.length_drop, List.length_nil] at this
      omega
    simp only [tree_May.l0]
    rw [if_neg (by omega)]
    rfl
  | cons x l ih =>
    intro i k hd hi hk
    rw [List.length_cons] at hk
    obtain ⟨k, rfl⟩ : ∃ j, k = j + 1 := ⟨k - 1, by omega⟩
    obtain ⟨hr, hlt, hd2⟩ := rd_drop l0 i x l hd
    have hi2 := ih (i + 1) k hd2 (by omega) (by omega)
    simp only [tree_May.l0]
    rw [if_pos (by omega), if_pos (by omega), if_pos (by omega), hr, may_eq x k (by omega), head_eq]
    have w1 : wrap64 ((i : Int) + 1) = ((i + 1 : Nat) : Int) := by rw [wrap_id (by omega) (by omega)]; omega
    rw [w1, hi2]
    clear w1
    simp only [Option.bind_some, allN, headB]
    cases mayN x with
    | false => rfl
    | true =>
      cases decide (x.f0 = 5 ∨ x.f0 = 6 ∨ x.f0 = 7) with
      | false => simp
      | true =>
        by_cases h0 : 0 < i
        · rw [if_pos rfl, if_pos rfl, if_pos (by omega), decide_eq_true h0]; rfl
        · rw [if_pos rfl, if_pos rfl, if_neg (by omega), decide_eq_false h0]; simp
def mayL (l : List Nd) : Bool := decide (endW kdT l 1 = some l.length) && decide (depL kdT l ≤ 40) && allN 0 l
theorem May_eqL (l : List Nd) (hl : l.length ≤ 1000000) (k : Nat) (hk : 5 * l.length + 420 ≤ k) : tree_May.f k l = some (mayL l) := by
  unfold tree_May.f mayL
  have e0 : (0 : Int) = ((0 : Nat) : Int) := rfl
  have hE := End_eq l hl 0 (by omega) k (by omega)
  rw [List.drop_zero, ← e0] at hE
  have hD := Depth_eq l hl k (by omega)
  obtain ⟨j, rfl⟩ : ∃ j, k = j + 1 := ⟨k - 1, by omega⟩
  have hM := May_l0 l hl l 0 j rfl (by omega) (by omega)
  rw [← e0] at hM
  rw [hE, hD]
  simp only [Option.bind_some, tree_May.j0, hM]
  cases h : endW kdT l 1 with
  | none => simp [outE]
  | some m =>
    simp only [outE, Nat.zero_add]
    rw [if_pos trivial]
    by_cases hm : m = l.length
    · subst hm
      rw [if_pos rfl]
      by_cases hd : depL kdT l ≤ 40
      · have : decide ((depL kdT l : Int) > 40) = false := decide_eq_false (by omega)
        rw [this, decide_eq_true hd]; simp
      · have : decide ((depL kdT l : Int) > 40) = true := decide_eq_true (by omega)
        rw [this, decide_eq_false hd]; simp
    · rw [if_neg (by omega), if_pos trivial]
      have : decide (some m = some l.length) = false := decide_eq_false (fun h => hm (Option.some.inj h))
      rw [this]; rfl
end Go.Proofs.Ytdelccahgchadaa
end
section
namespace Go.Proofs.Ytdelccahgchadaa
open Go.RowKit Go.Lib Go.Proofs.Ytdelccahgchadaa.P Go.Proofs.YtdelccahgchadaaW.PrintWords Go.Proofs.YtdelccahgchadaaW.PrintMore
set_option linter.unusedVariables false
theorem Grow_eq (n : Nat) (h : n ≤ 1000000) : api_Node_64.f (n : Int) = some [] := by
  unfold api_Node_64.f
  have hw : wrap64 (n : Int) = (n : Int) := wrap_id (by omega) (by omega)
  rw [hw]
  clear hw
  rw [if_neg (by omega)]
  by_cases h0 : (n : Int) > 0
  · have hb : ([] : List Nd).length + ((n : Int)).toNat < 1759218604441 := Nat.lt_of_le_of_lt (by rw [List.length_nil, Int.toNat_natCast]; omega : ([] : List Nd).length + ((n : Int)).toNat ≤ 1000000) (by decide)
    rw [if_pos h0, if_pos (by omega), if_pos hb]
    simp only [Option.bind_some]
    rw [if_pos (by omega)]
    rfl
  · rw [if_neg h0]
def lens (l : List (List Nd)) : Nat := (l.map List.length).sum
theorem rdL_at (l : List (List Nd)) (i : Nat) (h : i < l.length) : rd_L7 l (i : Int) = l[i] := by
  unfold rd_L7
  rw [Int.toNat_natCast, List.getD_eq_getElem?_getD, List.getElem?_eq_getElem h]
  rfl
theorem Concat_l1 (l : List (List Nd)) (hl : l.length ≤ 1000) : ∀ (m i k : Nat) (acc : List Nd), l.length - i < m → m ≤ k → i ≤ l.length → acc.length + lens (l.drop i) ≤ 1000000 → api_Node_48.l1 k acc l (l.length : Int) (i : Int) = some (acc ++ (l.drop i).flatten) := by
  intro m
  induction m with
  | zero => intro i k acc h; omega
  | succ m ih =>
    intro i k acc h hk hi hs
    obtain ⟨k, rfl⟩ : ∃ j, k = j + 1 := ⟨k - 1, by omega⟩
    simp only [api_Node_48.l1]
    by_cases hlt : (i : Int) < (l.length : Int)
    · have hil : i < l.length := by omega
      rw [List.drop_eq_getElem_cons hil] at hs ⊢
      simp only [lens, List.map_cons, List.sum_cons] at hs
      have hb : acc.length + l[i].length < 1759218604441 := Nat.lt_of_le_of_lt (by omega : acc.length + l[i].length ≤ 1000000) (by decide)
      rw [if_pos hlt, if_pos (by omega), if_pos hlt, rdL_at l i hil, if_pos hb]
      have hi2 := ih (i + 1) k (acc ++ l[i]) (by omega) (by omega) (by omega) (by rw [List.length_append]; unfold lens; omega)
      have hw : wrap64 ((i : Int) + 1) = ((i + 1 : Nat) : Int) := by rw [wrap_id (by omega) (by omega)]; omega
      rw [hw, hi2, List.flatten_cons, List.append_assoc]
    · rw [if_neg hlt, List.drop_eq_nil_of_le (by omega)]
      simp
theorem Concat_l0 (l : List (List Nd)) (hl : l.length ≤ 1000) (hs : lens l ≤ 1000000) : ∀ (m i k n : Nat), l.length - i < m → m + 1100 ≤ k → i ≤ l.length → n + lens (l.drop i) ≤ 1000000 → api_Node_48.l0 k l (n : Int) l (l.length : Int) (i : Int) = some l.flatten := by
  intro m
  induction m with
  | zero => intro i k n h; omega
  | succ m ih =>
    intro i k n h hk hi hn
    obtain ⟨k, rfl⟩ : ∃ j, k = j + 1 := ⟨k - 1, by omega⟩
    simp only [api_Node_48.l0]
    by_cases hlt : (i : Int) < (l.length : Int)
    · have hil : i < l.length := by omega
      rw [List.drop_eq_getElem_cons hil] at hn
      simp only [lens, List.map_cons, List.sum_cons] at hn
      have hi2 := ih (i + 1) k (n + l[i].length) (by omega) (by omega) (by omega) (by unfold lens; omega)
      rw [if_pos hlt, if_pos (by omega), if_pos hlt, rdL_at l i hil]
      have hw0 : wrap64 ((n : Int) + (l[i].length : Int)) = ((n + l[i].length : Nat) : Int) := by rw [wrap_id (by omega) (by omega)]; omega
      have hw : wrap64 ((i : Int) + 1) = ((i + 1 : Nat) : Int) := by rw [wrap_id (by omega) (by omega)]; omega
      rw [hw0, hw]
      clear hw hw0
      rw [if_neg (by omega), hi2]
    · have hg := Grow_eq n (by omega)
      rw [if_neg hlt, hg]
      simp only [Option.bind_some]
      have e0 : (0 : Int) = ((0 : Nat) : Int) := rfl
      rw [e0, Concat_l1 l hl (l.length + 1) 0 k [] (by omega) (by omega) (by omega) (by rw [List.drop_zero, List.length_nil]; omega), List.drop_zero, List.nil_append]
theorem Concat_eq (l : List (List Nd)) (hl : l.length ≤ 1000) (hs : lens l ≤ 1000000) (k : Nat) (hk : 2200 ≤ k) : api_Node_48.f k l = some l.flatten := by
  unfold api_Node_48.f
  have e0 : (0 : Int) = ((0 : Nat) : Int) := rfl
  rw [e0]
  exact Concat_l0 l hl hs (l.length + 1) 0 k 0 (by omega) (by omega) (by omega) (by rw [List.drop_zero]; omega)
theorem Node_eq (a : Int) (b c d : ByteArray) (e : List ByteArray) (l : List (List Nd)) (hl : l.length ≤ 1000) (hs : lens l ≤ 1000000) (k : Nat) (hk : 2200 ≤ k) : tree_Node.f k a b c d e l = some (⟨a, b, c, d, e⟩ :: l.flatten) := by
  unfold tree_Node.f
  rw [Concat_eq l hl hs k hk]
  simp only [Option.bind_some]
  have hf : l.flatten.length = lens l := by simp [lens, List.length_flatten]
  have hb : [(⟨a, b, c, d, e⟩ : Nd)].length + l.flatten.length < 1759218604441 := Nat.lt_of_le_of_lt (by rw [hf, List.length_singleton]; omega : [(⟨a, b, c, d, e⟩ : Nd)].length + l.flatten.length ≤ 1000001) (by decide)
  rw [if_pos hb]
  rfl
end Go.Proofs.Ytdelccahgchadaa
end
section
namespace Go.Proofs.Ytdelccahgchadaa
open Go.RowKit Go.Lib Go.Proofs.Ytdelccahgchadaa.P Go.Proofs.YtdelccahgchadaaW.PrintWords Go.Proofs.YtdelccahgchadaaW.PrintMore
set_option linter.unusedVariables false
def undP (l : List Nd) : Nat → Nat → List Nat
  | 0, _ => []
  | c + 1, p => p :: undP l c (match endW kdT (l.drop p) 1 with | none => 0 | some m => p + m)
theorem outE_fst (i : Nat) (o : Option Nat) : (outE i o).1 = (((match o with | none => 0 | some m => i + m) : Nat) : Int) := by cases o <;> rfl
theorem Under_l0 (l : List Nd) (hl : l.length ≤ 1000000) (K : Nat) (hK : K ≤ 3) : ∀ (c j p k : Nat) (acc : List Int), j + c = K → p ≤ l.length → l.length + c + 10 ≤ k → acc.length ≤ j →
    tree_Under.l0 k l acc (p : Int) (K : Int) (j : Int) = some (acc ++ (undP l c p).map fun n : Nat => (n : Int)) := by
  intro c
  induction c with
  | zero =>
    intro j p k acc hj hp hk ha
    obtain ⟨k, rfl⟩ : ∃ i, k = i + 1 := ⟨k - 1, by omega⟩
    simp only [tree_Under.l0]
    rw [if_neg (by omega)]
    simp [undP]
  | succ c ih =>
    intro j p k acc hj hp hk ha
    obtain ⟨k, rfl⟩ : ∃ i, k = i + 1 := ⟨k - 1, by omega⟩
    simp only [tree_Under.l0]
    have hb : acc.length < 17592186044416 := Nat.lt_of_le_of_lt (by omega : acc.length ≤ 3) (by decide)
    obtain ⟨q, hq⟩ : ∃ q, (match endW kdT (l.drop p) 1 with | none => 0 | some m => p + m) = q := ⟨_, rfl⟩
    have hql : q ≤ l.length := by
      rw [← hq]
      cases h : endW kdT (l.drop p) 1 with
      | none => exact Nat.zero_le _
      | some m =>
        have := (endW_le kdT h).1
        rw [List.length_drop] at this
        simp only []
        omega
    have hi2 := ih (j + 1) q k (acc ++ [(p : Int)]) (by omega) hql (by omega) (by rw [List.length_append, List.length_singleton]; omega)
    rw [if_pos (by omega), if_pos hb, End_eq l hl p hp k (by omega)]
    simp only [Option.bind_some]
    have hw : wrap64 ((j : Int) + 1) = ((j + 1 : Nat) : Int) := by rw [wrap_id (by omega) (by omega)]; omega
    rw [outE_fst, hq, hw, hi2]
    simp only [undP, hq, List.map_cons, List.append_assoc]
    rfl
def undL (l : List Nd) (i : Nat) : List Nat := match endW kdT (l.drop i) 1, l.drop i with | some _, x :: _ => undP l (kdT x).toNat (i + 1) | _, _ => []
theorem Under_eq (l : List Nd) (hl : l.length ≤ 1000000) (i : Nat) (hi : i ≤ l.length) (k : Nat) (hk : l.length + 20 ≤ k) : tree_Under.f k l (i : Int) = some ((undL l i).map fun n : Nat => (n : Int)) := by
  unfold tree_Under.f undL
  rw [End_eq l hl i hi k (by omega)]
  simp only [Option.bind_some]
  cases h : endW kdT (l.drop i) 1 with
  | none => simp [outE]
  | some m =>
    simp only [outE]
    rw [if_pos trivial]
    cases hd : l.drop i with
    | nil => rw [hd] at h; cases h
    | cons x r =>
      obtain ⟨hr, hlt, hd2⟩ := rd_drop l i x r hd
      rw [if_pos (by omega), if_pos (by omega), hr, Kids_eq _ _ _ _ _ k (by omega)]
      simp only [Option.bind_some]
      have hb := kdB_bounds x.f0 x.f1
      have hk0 : ¬ kdT x < 0 := by
        intro hn
        rw [hd] at h
        simp only [endW] at h
        rw [if_pos hn] at h
        cases h
      have hk1 : kdT x = kdB x.f0 x.f1 := rfl
      obtain ⟨c, hc⟩ : ∃ c, (kdT x).toNat = c := ⟨_, rfl⟩
      have hkc : kdB x.f0 x.f1 = (c : Int) := by omega
      have hu := Under_l0 l hl c (by omega) c 0 (i + 1) k [] (by omega) (by omega) (by omega) (by simp)
      have hw : wrap64 ((i : Int) + 1) = ((i + 1 : Nat) : Int) := by rw [wrap_id (by omega) (by omega)]; omega
      have e0 : (0 : Int) = ((0 : Nat) : Int) := rfl
      rw [hkc, hw, e0, hu, hc, List.nil_append]
theorem shown08_eq (k : Nat) (hk : 3000 ≤ k) : reredoslaw08_shown.f k = some true := by
  unfold reredoslaw08_shown.f reredoslaw08_lit.f
  simp only [Option.bind_some]
  rw [Node_eq _ _ _ _ _ _ (by decide) (by decide) k (by omega)]
  simp only [Option.bind_some]
  have hM := May_eqL ((⟨4, ⟨#[43]⟩, ⟨#[]⟩, ⟨#[]⟩, []⟩ : Nd) :: [[(⟨1, ⟨#[]⟩, ⟨#[]⟩, ⟨#[]⟩, [⟨#[49]⟩]⟩ : Nd)], [(⟨1, ⟨#[]⟩, ⟨#[]⟩, ⟨#[]⟩, [⟨#[50]⟩]⟩ : Nd)]].flatten) (by decide) k (by simp; omega)
  have hD := Depth_eq ((⟨4, ⟨#[43]⟩, ⟨#[]⟩, ⟨#[]⟩, []⟩ : Nd) :: [[(⟨1, ⟨#[]⟩, ⟨#[]⟩, ⟨#[]⟩, [⟨#[49]⟩]⟩ : Nd)], [(⟨1, ⟨#[]⟩, ⟨#[]⟩, ⟨#[]⟩, [⟨#[50]⟩]⟩ : Nd)]].flatten) (by decide) k (by simp; omega)
  have hU := Under_eq ((⟨4, ⟨#[43]⟩, ⟨#[]⟩, ⟨#[]⟩, []⟩ : Nd) :: [[(⟨1, ⟨#[]⟩, ⟨#[]⟩, ⟨#[]⟩, [⟨#[49]⟩]⟩ : Nd)], [(⟨1, ⟨#[]⟩, ⟨#[]⟩, ⟨#[]⟩, [⟨#[50]⟩]⟩ : Nd)]].flatten) (by decide) 0 (by decide) k (by simp; omega)
  have e1 : mayL ((⟨4, ⟨#[43]⟩, ⟨#[]⟩, ⟨#[]⟩, []⟩ : Nd) :: [[(⟨1, ⟨#[]⟩, ⟨#[]⟩, ⟨#[]⟩, [⟨#[49]⟩]⟩ : Nd)], [(⟨1, ⟨#[]⟩, ⟨#[]⟩, ⟨#[]⟩, [⟨#[50]⟩]⟩ : Nd)]].flatten) = true := by decide +kernel
  have e2 : depL kdT ((⟨4, ⟨#[43]⟩, ⟨#[]⟩, ⟨#[]⟩, []⟩ : Nd) :: [[(⟨1, ⟨#[]⟩, ⟨#[]⟩, ⟨#[]⟩, [⟨#[49]⟩]⟩ : Nd)], [(⟨1, ⟨#[]⟩, ⟨#[]⟩, ⟨#[]⟩, [⟨#[50]⟩]⟩ : Nd)]].flatten) = 2 := by decide +kernel
  have e3 : undL ((⟨4, ⟨#[43]⟩, ⟨#[]⟩, ⟨#[]⟩, []⟩ : Nd) :: [[(⟨1, ⟨#[]⟩, ⟨#[]⟩, ⟨#[]⟩, [⟨#[49]⟩]⟩ : Nd)], [(⟨1, ⟨#[]⟩, ⟨#[]⟩, ⟨#[]⟩, [⟨#[50]⟩]⟩ : Nd)]].flatten) 0 = [1, 2] := by decide +kernel
  have e0 : (0 : Int) = ((0 : Nat) : Int) := rfl
  rw [← e0] at hU
  rw [hM, hD, hU, e1, e2, e3]
  obtain ⟨k, rfl⟩ : ∃ j, k = j + 3 := ⟨k - 3, by omega⟩
  simp [reredosref03_Same.f, reredosref03_Same.l0, wrap64, rd, rd_T25]
end Go.Proofs.Ytdelccahgchadaa
end
section
namespace Go.Proofs.Ytdelccahgchadaa
open Go.RowKit Go.Lib Go.Proofs.Ytdelccahgchadaa.P Go.Proofs.YtdelccahgchadaaW.PrintWords Go.Proofs.YtdelccahgchadaaW.PrintMore
set_option linter.unusedVariables false
theorem Few_l1 (x : List Nd) (i : Nat) (hi : i < x.length) (hn : (rd_T25 x (i : Int)).f4.length ≤ 120) : ∀ (m j k : Nat), (rd_T25 x (i : Int)).f4.length - j < m → m ≤ k → j ≤ (rd_T25 x (i : Int)).f4.length → reredosref08_Few.l1 k x (i : Int) (j : Int) = some false ∨ ∃ k', k ≤ k' + m ∧ reredosref08_Few.l1 k x (i : Int) (j : Int) = reredosref08_Few.l0 k' x (wrap64 ((i : Int) + 1)) := by
  intro m
  induction m with
  | zero => intro j k h; omega
  | succ m ih =>
    intro j k h hk hj
    obtain ⟨k, rfl⟩ : ∃ q, k = q + 1 := ⟨k - 1, by omega⟩
    have e : reredosref08_Few.l1 (k + 1) x (i : Int) (j : Int) = if 0 ≤ (i : Int) then (if (i : Int) < (x.length : Int) then (if (j : Int) < (((rd_T25 x (i : Int)).f4).length : Int) then (if 0 ≤ (j : Int) then (if ((rdOf ByteArray.empty ((rd_T25 x (i : Int)).f4) (j : Int)).size : Int) > 120 then (some false) else (reredosref08_Few.l1 k x (i : Int) (wrap64 ((j : Int) + 1)))) else (none)) else (reredosref08_Few.l0 k x (wrap64 ((i : Int) + 1)))) else (none)) else (none) := by rw [reredosref08_Few.l1]
    rw [e, if_pos (by omega), if_pos (by omega)]
    by_cases hlt : (j : Int) < (((rd_T25 x (i : Int)).f4).length : Int)
    · rw [if_pos hlt, if_pos (by omega)]
      by_cases hs : ((rdOf ByteArray.empty ((rd_T25 x (i : Int)).f4) (j : Int)).size : Int) > 120
      · left; rw [if_pos hs]
      · rw [if_neg hs]
        have hi2 := ih (j + 1) k (by omega) (by omega) (by omega)
        have hw : wrap64 ((j : Int) + 1) = ((j + 1 : Nat) : Int) := by rw [wrap_id (by omega) (by omega)]; omega
        rw [hw]
        rcases hi2 with h1 | ⟨k', h1, h2⟩
        · exact .inl h1
        · exact .inr ⟨k', by omega, h2⟩
    · rw [if_neg hlt]
      exact .inr ⟨k, by omega, rfl⟩
theorem Few_l0 (x : List Nd) (hx : x.length ≤ 9223372036854775807) : ∀ (d i k : Nat), 81 - i ≤ d → i ≤ x.length → 200 * d + 200 ≤ k → ∃ b, reredosref08_Few.l0 k x (i : Int) = some b ∧ (b = true → x.length ≤ 80) := by
  intro d
  induction d with
  | zero =>
    intro i k hd hi hk
    obtain ⟨k, rfl⟩ : ∃ q, k = q + 2 := ⟨k - 2, by omega⟩
    have h81 : decide ((i : Int) < 81) = false := decide_eq_false (by omega)
    rw [reredosref08_Few.l0]
    by_cases hlt : (i : Int) < (x.length : Int)
    · rw [if_pos hlt, h81, reredosref08_Few.j1, if_neg (by decide)]
      exact ⟨_, rfl, fun h => by have := of_decide_eq_true h; omega⟩
    · rw [if_neg hlt, reredosref08_Few.j1, if_neg (by decide)]
      exact ⟨_, rfl, fun h => by have := of_decide_eq_true h; omega⟩
  | succ d ih =>
    intro i k hd hi hk
    obtain ⟨k, rfl⟩ : ∃ q, k = q + 3 := ⟨k - 3, by omega⟩
    rw [reredosref08_Few.l0]
    by_cases hlt : (i : Int) < (x.length : Int)
    · rw [if_pos hlt]
      by_cases h81 : (i : Int) < 81
      · rw [decide_eq_true h81, reredosref08_Few.j1, if_pos rfl, if_pos (by omega), if_pos hlt]
        have hj : ∀ b : Bool, (b = false → (rd_T25 x (i : Int)).f4.length ≤ 120) → ∃ r, reredosref08_Few.j2 (k + 1) x (i : Int) b = some r ∧ (r = true → x.length ≤ 80) := by
          intro b hb
          rw [reredosref08_Few.j2]
          cases b with
          | true => exact ⟨false, by rw [if_pos rfl], fun h => by cases h⟩
          | false =>
            rw [if_neg (by decide)]
            have h4 := hb rfl
            have e0 : (0 : Int) = ((0 : Nat) : Int) := rfl
            rcases Few_l1 x i (by omega) h4 121 0 k (by omega) (by omega) (by omega) with h1 | ⟨k', h1, h2⟩
            · rw [e0, h1]; exact ⟨false, rfl, fun h => by cases h⟩
            · have hi2 := ih (i + 1) k' (by omega) (by omega) (by omega)
              have hw : wrap64 ((i : Int) + 1) = ((i + 1 : Nat) : Int) := by rw [wrap_id (by omega) (by omega)]; omega
              rw [e0, h2, hw]
              exact hi2
        by_cases c1 : (((rd_T25 x (i : Int)).f1).size : Int) > 120
        · rw [if_pos c1]; exact hj true (fun h => by cases h)
        rw [if_neg c1]
        by_cases c2 : (((rd_T25 x (i : Int)).f2).size : Int) > 120
        · rw [if_pos c2]; exact hj true (fun h => by cases h)
        rw [if_neg c2]
        by_cases c3 : (((rd_T25 x (i : Int)).f3).size : Int) > 120
        · rw [if_pos c3]; exact hj true (fun h => by cases h)
        rw [if_neg c3]
        exact hj _ (fun h => by have := of_decide_eq_false h; omega)
      · rw [decide_eq_false h81, reredosref08_Few.j1, if_neg (by decide)]
        exact ⟨_, rfl, fun h => by have := of_decide_eq_true h; omega⟩
    · rw [if_neg hlt, reredosref08_Few.j1, if_neg (by decide)]
      exact ⟨_, rfl, fun h => by have := of_decide_eq_true h; omega⟩
theorem Few_eq (x : List Nd) (hx : x.length ≤ 9223372036854775807) (k : Nat) (hk : 17000 ≤ k) : ∃ b, reredosref08_Few.f k x = some b ∧ (b = true → x.length ≤ 80) := by
  unfold reredosref08_Few.f
  have e0 : (0 : Int) = ((0 : Nat) : Int) := rfl
  rw [e0]
  exact Few_l0 x hx 81 0 k (by omega) (by omega) (by omega)
end Go.Proofs.Ytdelccahgchadaa
end
section
namespace Go.Proofs.Ytdelccahgchadaa
open Go.RowKit Go.Lib Go.Proofs.Ytdelccahgchadaa.P Go.Proofs.YtdelccahgchadaaW.PrintWords Go.Proofs.YtdelccahgchadaaW.PrintMore
set_option linter.unusedVariables false
theorem toList_inj {a b : ByteArray} : a.toList = b.toList ↔ a = b := ⟨fun h => L_ext (by rw [← toList_L, ← toList_L]; exact h), fun h => by rw [h]⟩
theorem SE_l0 (a b : List ByteArray) (hl : a.length = b.length) (hb : a.length ≤ 9223372036854775807) : ∀ (m i k : Nat), a.length - i < m → m ≤ k → i ≤ a.length → ∃ r, slices_Equal_string_string.l0 k a b (a.length : Int) (i : Int) = some r ∧ (r = true ↔ a.drop i = b.drop i) := by
  intro m
  induction m with
  | zero => intro i k h; omega
  | succ m ih =>
    intro i k h hk hi
    obtain ⟨k, rfl⟩ : ∃ j, k = j + 1 := ⟨k - 1, by omega⟩
    simp only [slices_Equal_string_string.l0]
    by_cases hlt : i < a.length
    · rw [if_pos (by omega), if_pos (by omega), if_pos (by omega), if_pos (by omega), rdS_get a i hlt, rdS_get b i (by omega), List.drop_eq_getElem_cons hlt, List.drop_eq_getElem_cons (show i < b.length by omega)]
      by_cases he : a[i].toList = b[i].toList
      · obtain ⟨r, h1, h2⟩ := ih (i + 1) k (by omega) (by omega) (by omega)
        have hw : wrap64 ((i : Int) + 1) = ((i + 1 : Nat) : Int) := by rw [wrap_id (by omega) (by omega)]; omega
        rw [if_pos he, hw, h1]
        exact ⟨r, rfl, h2.trans ⟨fun h3 => by rw [h3, toList_inj.1 he], fun h3 => by injection h3⟩⟩
      · rw [if_neg he]
        exact ⟨false, rfl, ⟨fun h3 => (by cases h3), fun h3 => by injection h3 with h4 h5; exact absurd (toList_inj.2 h4) he⟩⟩
    · rw [if_neg (by omega), List.drop_eq_nil_of_le (by omega), List.drop_eq_nil_of_le (by omega)]
      exact ⟨true, rfl, by simp⟩
theorem SE_eq (a b : List ByteArray) (hb : a.length ≤ 9223372036854775807) (k : Nat) (hk : a.length + 1 ≤ k) : ∃ r, slices_Equal_string_string.f k a b = some r ∧ (r = true ↔ a = b) := by
  unfold slices_Equal_string_string.f
  by_cases h : (a.length : Int) = (b.length : Int)
  · rw [if_pos h]
    have e0 : (0 : Int) = ((0 : Nat) : Int) := rfl
    rw [e0]
    exact SE_l0 a b (by omega) hb (a.length + 1) 0 k (by omega) hk (by omega)
  · rw [if_neg h]
    exact ⟨false, rfl, ⟨fun h3 => (by cases h3), fun h3 => absurd (by rw [h3]) h⟩⟩
theorem Nd_ext {x y : Nd} (h0 : x.f0 = y.f0) (h1 : x.f1 = y.f1) (h2 : x.f2 = y.f2) (h3 : x.f3 = y.f3) (h4 : x.f4 = y.f4) : x = y := by
  cases x; cases y
  simp only at h0 h1 h2 h3 h4
  rw [h0, h1, h2, h3, h4]
theorem Same1_eq (x y : Nd) (hb : x.f4.length ≤ 9223372036854775807) (k : Nat) (hk : x.f4.length + 1 ≤ k) : ∃ r, tree_Same_1.f k x.f0 x.f1 x.f2 x.f3 x.f4 y.f0 y.f1 y.f2 y.f3 y.f4 = some r ∧ (r = true ↔ x = y) := by
  unfold tree_Same_1.f
  by_cases h0 : x.f0 = y.f0
  · rw [if_pos h0]
    by_cases h1 : x.f1.toList = y.f1.toList
    · rw [if_pos h1]
      by_cases h2 : x.f2.toList = y.f2.toList
      · rw [if_pos h2]
        by_cases h3 : x.f3.toList = y.f3.toList
        · rw [if_pos h3]
          obtain ⟨r, h4, h5⟩ := SE_eq x.f4 y.f4 hb k hk
          rw [h4]
          exact ⟨r, rfl, h5.trans ⟨fun h6 => Nd_ext h0 (toList_inj.1 h1) (toList_inj.1 h2) (toList_inj.1 h3) h6, fun h6 => by rw [h6]⟩⟩
        · rw [if_neg h3]; exact ⟨false, rfl, ⟨fun h => (by cases h), fun h => absurd (by rw [h]) h3⟩⟩
      · rw [if_neg h2]; exact ⟨false, rfl, ⟨fun h => (by cases h), fun h => absurd (by rw [h]) h2⟩⟩
    · rw [if_neg h1]; exact ⟨false, rfl, ⟨fun h => (by cases h), fun h => absurd (by rw [h]) h1⟩⟩
  · rw [if_neg h0]; exact ⟨false, rfl, ⟨fun h => (by cases h), fun h => absurd (by rw [h]) h0⟩⟩
theorem rd_get (l : List Nd) (i : Nat) (h : i < l.length) : rd_T25 l (i : Int) = l[i] := by
  unfold rd_T25
  rw [Int.toNat_natCast, List.getD_eq_getElem?_getD, List.getElem?_eq_getElem h]
  rfl
theorem EqF_l0 (a b : List Nd) (N : Nat) (hN : N ≤ 9223372036854775807) (hn : ∀ x ∈ a, x.f4.length ≤ N) (hl : a.length = b.length) (hb : a.length ≤ 9223372036854775807) : ∀ (m i k : Nat), a.length - i < m → m + N + 1 ≤ k → i ≤ a.length → ∃ r, api_Node_45.l0 k b a (a.length : Int) (i : Int) = some r ∧ (r = true ↔ a.drop i = b.drop i) := by
  intro m
  induction m with
  | zero => intro i k h; omega
  | succ m ih =>
    intro i k h hk hi
    obtain ⟨k, rfl⟩ : ∃ j, k = j + 1 := ⟨k - 1, by omega⟩
    simp only [api_Node_45.l0]
    by_cases hlt : i < a.length
    · have hn1 := hn a[i] (List.getElem_mem hlt)
      obtain ⟨r0, h0, h00⟩ := Same1_eq a[i] (b[i]'(by omega)) (by omega) k (by omega)
      rw [if_pos (by omega), if_pos (by omega), if_pos (by omega), if_pos (by omega), rd_get a i hlt, rd_get b i (by omega), h0, List.drop_eq_getElem_cons hlt, List.drop_eq_getElem_cons (show i < b.length by omega)]
      simp only [Option.bind_some]
      cases r0 with
      | true =>
        obtain ⟨r, h1, h2⟩ := ih (i + 1) k (by omega) (by omega) (by omega)
        have hw : wrap64 ((i : Int) + 1) = ((i + 1 : Nat) : Int) := by rw [wrap_id (by omega) (by omega)]; omega
        rw [if_pos rfl, hw, h1]
        exact ⟨r, rfl, h2.trans ⟨fun h3 => by rw [h3, h00.1 rfl], fun h3 => by injection h3⟩⟩
      | false =>
        rw [if_neg (by decide)]
        exact ⟨false, rfl, ⟨fun h3 => (by cases h3), fun h3 => by injection h3 with h4 h5; exact h00.2 h4⟩⟩
    · rw [if_neg (by omega), List.drop_eq_nil_of_le (by omega), List.drop_eq_nil_of_le (by omega)]
      exact ⟨true, rfl, by simp⟩
theorem Same_eq (a b : List Nd) (N : Nat) (hN : N ≤ 9223372036854775807) (hn : ∀ x ∈ a, x.f4.length ≤ N) (hb : a.length ≤ 9223372036854775807) (k : Nat) (hk : a.length + N + 2 ≤ k) : ∃ r, tree_Same.f k a b = some r ∧ (r = true ↔ a = b) := by
  unfold tree_Same.f api_Node_45.f
  by_cases h : (a.length : Int) = (b.length : Int)
  · rw [if_pos h]
    have e0 : (0 : Int) = ((0 : Nat) : Int) := rfl
    obtain ⟨r, h1, h2⟩ := EqF_l0 a b N hN hn (by omega) hb (a.length + 1) 0 k (by omega) (by omega) (by omega)
    rw [e0, h1]
    exact ⟨r, rfl, h2⟩
  · rw [if_neg h]
    exact ⟨false, rfl, ⟨fun h3 => (by cases h3), fun h3 => absurd (by rw [h3]) h⟩⟩
end Go.Proofs.Ytdelccahgchadaa
end
section
namespace Go.Proofs.Ytdelccahgchadaa
open Go.RowKit Go.Lib Go.Proofs.Ytdelccahgchadaa.P Go.Proofs.YtdelccahgchadaaW.PrintWords Go.Proofs.YtdelccahgchadaaW.PrintMore
set_option linter.unusedVariables false
theorem succ_w {i : Nat} (h : i < 9223372036854775807) : wrap64 ((i : Int) + 1) = ((i + 1 : Nat) : Int) := by rw [wrap_id (by omega) (by omega)]; omega
theorem Ev.at_ {α : Type} {g : Nat → Option α} {r : α} (K : Nat) (h : ∀ k, K ≤ k → g k = some r) : Ev g r := ⟨K, h⟩
theorem RSame_l1 (a b : List Nd) (i : Nat) (hi : i < a.length) (hib : i < b.length) (hn : a[i].f4.length = b[i].f4.length) (hb : a[i].f4.length ≤ 9223372036854775807) (hia : i < 9223372036854775807) (q : Prop) (r0 : Bool) (h0 : Ev (fun k => reredosref08_Same.l0 k a b ((i + 1 : Nat) : Int)) r0) (h00 : r0 = true ↔ q) :
    ∀ (m j : Nat), a[i].f4.length - j < m → j ≤ a[i].f4.length → ∃ r, Ev (fun k => reredosref08_Same.l1 k a b (i : Int) (j : Int)) r ∧ (r = true ↔ (a[i].f4.drop j = b[i].f4.drop j ∧ q)) := by
  intro m
  induction m with
  | zero => intro j h; omega
  | succ m ih =>
    intro j h hj
    have e : ∀ k, reredosref08_Same.l1 (k + 1) a b (i : Int) (j : Int) = if (j : Int) < (((a[i]).f4).length : Int) then (if (rdOf ByteArray.empty ((a[i]).f4) (j : Int)).toList = (rdOf ByteArray.empty ((b[i]).f4) (j : Int)).toList then (reredosref08_Same.l1 k a b (i : Int) (wrap64 ((j : Int) + 1))) else (some false)) else (reredosref08_Same.l0 k a b (wrap64 ((i : Int) + 1))) := by
      intro k
      rw [reredosref08_Same.l1, rd_get a i hi, rd_get b i hib, if_pos (by omega), if_pos (by omega)]
      by_cases hlt : (j : Int) < (((a[i]).f4).length : Int)
      · rw [if_pos hlt, if_pos hlt, if_pos (by omega), if_pos (by omega), if_pos (by omega)]
      · rw [if_neg hlt, if_neg hlt]
    by_cases hlt : j < a[i].f4.length
    · rw [List.drop_eq_getElem_cons hlt, List.drop_eq_getElem_cons (show j < b[i].f4.length by omega)]
      by_cases he : (a[i].f4[j]).toList = (b[i].f4[j]'(by omega)).toList
      · obtain ⟨r, h1, h2⟩ := ih (j + 1) (by omega) (by omega)
        refine ⟨r, Ev.step (f := fun k => reredosref08_Same.l1 k a b (i : Int) ((j + 1 : Nat) : Int)) (fun k => ?_) h1, h2.trans ⟨fun h3 => ⟨by rw [h3.1, toList_inj.1 he], h3.2⟩, fun h3 => ⟨by injection h3.1, h3.2⟩⟩⟩
        show reredosref08_Same.l1 (k + 1) a b (i : Int) (j : Int) = _
        rw [e, if_pos (by omega), rdS_get _ j hlt, rdS_get _ j (by omega), if_pos he, succ_w (by omega)]
      · refine ⟨false, Ev.step (f := fun k => some false) (fun k => ?_) (Ev.now _), ⟨fun h3 => (by cases h3), fun h3 => by injection h3.1 with h4 h5; exact absurd (toList_inj.2 h4) he⟩⟩
        show reredosref08_Same.l1 (k + 1) a b (i : Int) (j : Int) = _
        rw [e, if_pos (by omega), rdS_get _ j hlt, rdS_get _ j (by omega), if_neg he]
    · refine ⟨r0, Ev.step (fun k => ?_) h0, h00.trans ⟨fun h3 => ⟨by rw [List.drop_eq_nil_of_le (by omega), List.drop_eq_nil_of_le (by omega)], h3⟩, fun h3 => h3.2⟩⟩
      show reredosref08_Same.l1 (k + 1) a b (i : Int) (j : Int) = _
      rw [e, if_neg (by omega), succ_w hia]
theorem RSame_l0 (a b : List Nd) (hl : a.length = b.length) (hla : a.length ≤ 9223372036854775807) (hn : ∀ x ∈ a, x.f4.length ≤ 9223372036854775807) : ∀ (m i : Nat), a.length - i < m → i ≤ a.length → ∃ r, Ev (fun k => reredosref08_Same.l0 k a b (i : Int)) r ∧ (r = true ↔ a.drop i = b.drop i) := by
  intro m
  induction m with
  | zero => intro i h; omega
  | succ m ih =>
    intro i h hi
    by_cases hlt : i < a.length
    · have hib : i < b.length := by omega
      rw [List.drop_eq_getElem_cons hlt, List.drop_eq_getElem_cons hib]
      have hj : ∀ k c, reredosref08_Same.j1 (k + 1) a b (i : Int) c = if c = true then some false else reredosref08_Same.l1 k a b (i : Int) 0 := by intro k c; rw [reredosref08_Same.j1]
      have hno : ∀ k, reredosref08_Same.j1 (k + 1) a b (i : Int) true = some false := fun k => by rw [hj, if_pos rfl]
      have e : ∀ k, reredosref08_Same.l0 (k + 1) a b (i : Int) = if a[i].f0 = b[i].f0 then (if a[i].f1.toList = b[i].f1.toList then (if a[i].f2.toList = b[i].f2.toList then (if a[i].f3.toList = b[i].f3.toList then (reredosref08_Same.j1 k a b (i : Int) ((a[i].f4.length : Int) != (b[i].f4.length : Int))) else (reredosref08_Same.j1 k a b (i : Int) true)) else (reredosref08_Same.j1 k a b (i : Int) true)) else (reredosref08_Same.j1 k a b (i : Int) true)) else (reredosref08_Same.j1 k a b (i : Int) true) := by
        intro k
        rw [reredosref08_Same.l0, rd_get a i hlt, rd_get b i hib, if_pos (by omega), if_pos (by omega), if_pos (by omega)]
      have hfalse : (∀ k, reredosref08_Same.l0 (k + 1) a b (i : Int) = reredosref08_Same.j1 k a b (i : Int) true) → ¬ (a[i] = b[i]) → ∃ r, Ev (fun k => reredosref08_Same.l0 k a b (i : Int)) r ∧ (r = true ↔ a[i] :: a.drop (i + 1) = b[i] :: b.drop (i + 1)) := fun h1 h2 =>
        ⟨false, Ev.step h1 (Ev.step (f := fun _ => some false) (fun k => hno k) (Ev.now _)), ⟨fun h3 => (by cases h3), fun h3 => by injection h3 with h4 h5; exact absurd h4 h2⟩⟩
      by_cases c0 : a[i].f0 = b[i].f0
      · by_cases c1 : a[i].f1.toList = b[i].f1.toList
        · by_cases c2 : a[i].f2.toList = b[i].f2.toList
          · by_cases c3 : a[i].f3.toList = b[i].f3.toList
            · by_cases c4 : a[i].f4.length = b[i].f4.length
              · obtain ⟨r0, h0, h00⟩ := ih (i + 1) (by omega) (by omega)
                obtain ⟨r, h1, h2⟩ := RSame_l1 a b i hlt hib c4 (hn _ (List.getElem_mem hlt)) (by omega) (a.drop (i + 1) = b.drop (i + 1)) r0 h0 h00 (a[i].f4.length + 1) 0 (by omega) (by omega)
                have ev2 : Ev (fun k => reredosref08_Same.j1 k a b (i : Int) ((a[i].f4.length : Int) != (b[i].f4.length : Int))) r := Ev.step (fun k => by
                  show reredosref08_Same.j1 (k + 1) a b (i : Int) ((a[i].f4.length : Int) != (b[i].f4.length : Int)) = reredosref08_Same.l1 k a b (i : Int) ((0 : Nat) : Int)
                  rw [hj, if_neg (by rw [c4]; simp)]; rfl) h1
                refine ⟨r, Ev.step (fun k => by
                  show reredosref08_Same.l0 (k + 1) a b (i : Int) = _
                  rw [e, if_pos c0, if_pos c1, if_pos c2, if_pos c3]) ev2, h2.trans ⟨fun h3 => ?_, fun h3 => ?_⟩⟩
                · rw [List.drop_zero, List.drop_zero] at h3
                  rw [h3.2, Nd_ext c0 (toList_inj.1 c1) (toList_inj.1 c2) (toList_inj.1 c3) h3.1]
                · injection h3 with h4 h5
                  exact ⟨by rw [h4], h5⟩
              · refine ⟨false, Ev.step (f := fun k => reredosref08_Same.j1 k a b (i : Int) ((a[i].f4.length : Int) != (b[i].f4.length : Int))) (fun k => by
                  show reredosref08_Same.l0 (k + 1) a b (i : Int) = _
                  rw [e, if_pos c0, if_pos c1, if_pos c2, if_pos c3]) (Ev.step (f := fun _ => some false) (fun k => by
                  show reredosref08_Same.j1 (k + 1) a b (i : Int) _ = _
                  rw [hj, if_pos (by rw [bne_iff_ne]; omega)]) (Ev.now _)), ⟨fun h3 => (by cases h3), fun h3 => by injection h3 with h4 h5; exact absurd (by rw [h4]) c4⟩⟩
            · exact hfalse (fun k => by rw [e, if_pos c0, if_pos c1, if_pos c2, if_neg c3]) (fun h => c3 (by rw [h]))
          · exact hfalse (fun k => by rw [e, if_pos c0, if_pos c1, if_neg c2]) (fun h => c2 (by rw [h]))
        · exact hfalse (fun k => by rw [e, if_pos c0, if_neg c1]) (fun h => c1 (by rw [h]))
      · exact hfalse (fun k => by rw [e, if_neg c0]) (fun h => c0 (by rw [h]))
    · rw [List.drop_eq_nil_of_le (by omega), List.drop_eq_nil_of_le (by omega)]
      refine ⟨true, Ev.step (f := fun _ => some true) (fun k => ?_) (Ev.now _), by simp⟩
      show reredosref08_Same.l0 (k + 1) a b (i : Int) = _
      rw [reredosref08_Same.l0, if_neg (by omega)]
theorem RSame_eq (a b : List Nd) (hla : a.length ≤ 9223372036854775807) (hn : ∀ x ∈ a, x.f4.length ≤ 9223372036854775807) : ∃ r, Ev (fun k => reredosref08_Same.f k a b) r ∧ (r = true ↔ a = b) := by
  by_cases h : (a.length : Int) = (b.length : Int)
  · obtain ⟨r, h1, h2⟩ := RSame_l0 a b (by omega) hla hn (a.length + 1) 0 (by omega) (by omega)
    exact ⟨r, Ev.congr (fun k => by show reredosref08_Same.f k a b = reredosref08_Same.l0 k a b ((0 : Nat) : Int); unfold reredosref08_Same.f; rw [if_pos h]; rfl) h1, h2⟩
  · exact ⟨false, Ev.congr (f := fun _ => some false) (fun k => by show reredosref08_Same.f k a b = _; unfold reredosref08_Same.f; rw [if_neg h]) (Ev.now _), ⟨fun h3 => (by cases h3), fun h3 => absurd (by rw [h3]) h⟩⟩
end Go.Proofs.Ytdelccahgchadaa
end
section
namespace Go.Proofs.Ytdelccahgchadaa.Pure
open Go.RowKit Go.Proofs.Ytdelccahgchadaa Go.Proofs.Ytdelccahgchadaa.P Go.Proofs.YtdelccahgchadaaW.PrintWords Go.Proofs.YtdelccahgchadaaW.PrintMore
set_option linter.unusedVariables false
theorem TreeSame : reredoslaw08_TreeSame.Pure := by
  intro l0 l1 a b c d e hl hl1 _ _ _ _ hle
  obtain ⟨N, hNe⟩ : ∃ N : Nat, N = maxLen := ⟨_, rfl⟩
  have hN : N ≤ 9223372036854775807 := by rw [hNe]; decide
  rw [← hNe] at hl hl1 hle
  have hn0 : ∀ x ∈ l0, x.f4.length ≤ N := fun y hy => (hl.2 y hy).2.2.2.2.1
  have hn1 : ∀ x ∈ l1, x.f4.length ≤ N := fun y hy => (hl1.2 y hy).2.2.2.2.1
  obtain ⟨r0, ⟨K0, R0⟩, h00⟩ := RSame_eq l0 l1 (Nat.le_trans hl.1 hN) (fun x hx => Nat.le_trans (hn0 x hx) hN)
  obtain ⟨fw, hf, hf80⟩ : ∃ b, (∀ k, 17000 ≤ k → reredosref08_Few.f k l0 = some b) ∧ (b = true → l0.length ≤ 80) := by
    obtain ⟨b, h1, h2⟩ := Few_eq l0 (Nat.le_trans hl.1 hN) 17000 (by omega)
    exact ⟨b, fun k hk => at_rounds (fun k => reredosref08_Few.mono l0 k) hk h1, h2⟩
  obtain ⟨fw1, hf1, hf81⟩ : ∃ b, (∀ k, 17000 ≤ k → reredosref08_Few.f k l1 = some b) ∧ (b = true → l1.length ≤ 80) := by
    obtain ⟨b, h1, h2⟩ := Few_eq l1 (Nat.le_trans hl1.1 hN) 17000 (by omega)
    exact ⟨b, fun k hk => at_rounds (fun k => reredosref08_Few.mono l1 k) hk h1, h2⟩
  have hsh : ∀ k, 3000 ≤ k → reredoslaw08_shown.f k = some true := fun k hk => shown08_eq k hk
  cases fw with
  | false =>
    refine ⟨17001, ?_⟩
    unfold reredoslaw08_TreeSame.f
    rw [hsh _ (by omega), hf _ (by omega)]
    simp only [Option.bind_some]
    rw [if_neg (by decide), reredoslaw08_TreeSame.j0, if_pos rfl]
  | true =>
    have h80 := hf80 rfl
    cases fw1 with
    | false =>
      refine ⟨17001, ?_⟩
      unfold reredoslaw08_TreeSame.f
      rw [hsh _ (by omega), hf _ (by omega), hf1 _ (by omega)]
      simp only [Option.bind_some]
      rw [if_pos trivial, reredoslaw08_TreeSame.j0, if_pos (by rfl)]
    | true =>
      have h81 := hf81 rfl
      have hall : ∀ x ∈ (⟨a, b, c, d, e⟩ : Nd) :: (l0 ++ l1), x.f4.length ≤ 9223372036854775807 := by
        intro x hx
        rcases List.mem_cons.1 hx with h | h
        · rw [h]; exact Nat.le_trans hle.1 hN
        · rcases List.mem_append.1 h with h | h
          · exact Nat.le_trans (hn0 x h) hN
          · exact Nat.le_trans (hn1 x h) hN
      obtain ⟨r1, ⟨K1, R1⟩, h01⟩ := RSame_eq ((⟨a, b, c, d, e⟩ : Nd) :: (l0 ++ l1)) ((⟨a, b, c, d, e⟩ : Nd) :: (l0 ++ l1)) (by rw [List.length_cons, List.length_append]; omega) hall
      obtain ⟨r2, ⟨K2, R2⟩, h02⟩ := RSame_eq [(⟨a, b, c, d, e⟩ : Nd)] [(⟨a, b, c, d, e⟩ : Nd)] (by rw [List.length_singleton]; omega) (fun x hx => hall x (by rw [List.mem_singleton.1 hx]; exact List.mem_cons_self))
      have R0' : ∀ k, K0 ≤ k → reredosref08_Same.f k l0 l1 = some r0 := R0
      have R1' : ∀ k, K1 ≤ k → reredosref08_Same.f k ((⟨a, b, c, d, e⟩ : Nd) :: (l0 ++ l1)) ((⟨a, b, c, d, e⟩ : Nd) :: (l0 ++ l1)) = some r1 := R1
      have R2' : ∀ k, K2 ≤ k → reredosref08_Same.f k [(⟨a, b, c, d, e⟩ : Nd)] [(⟨a, b, c, d, e⟩ : Nd)] = some r2 := R2
      have e1 : r1 = true := h01.2 rfl
      have e2 : r2 = true := h02.2 rfl
      subst e1
      subst e2
      obtain ⟨K, hK⟩ : ∃ K : Nat, N + K0 + K1 + K2 + 20000 < K := ⟨N + K0 + K1 + K2 + 20001, by omega⟩
      obtain ⟨r, hs, hs0⟩ := Same_eq l0 l1 N hN hn0 (by omega) K (by omega)
      have er : (r == r0) = true := by
        rw [beq_iff_eq, Bool.eq_iff_iff]
        exact hs0.trans h00.symm
      refine ⟨K + 1, ?_⟩
      unfold reredoslaw08_TreeSame.f
      rw [hsh _ (by omega), hf _ (by omega), hf1 _ (by omega)]
      simp only [Option.bind_some]
      have hb1 : ([(⟨a, b, c, d, e⟩ : Nd)] : List Nd).length + l0.length < 1759218604441 := Nat.lt_of_le_of_lt (by rw [List.length_singleton]; omega : ([(⟨a, b, c, d, e⟩ : Nd)] : List Nd).length + l0.length ≤ 81) (by decide)
      have hb2 : ([(⟨a, b, c, d, e⟩ : Nd)] ++ l0).length + l1.length < 1759218604441 := Nat.lt_of_le_of_lt (by rw [List.length_append, List.length_singleton]; omega : ([(⟨a, b, c, d, e⟩ : Nd)] ++ l0).length + l1.length ≤ 161) (by decide)
      rw [if_pos trivial, reredoslaw08_TreeSame.j0, if_neg (by decide)]
      simp only [Option.bind_some]
      rw [if_pos hb1, if_pos hb2, if_pos trivial, hs, R0' K (by omega)]
      simp only [Option.bind_some]
      rw [if_pos er, Node_eq _ _ _ _ _ _ (by simp only [List.length_cons, List.length_nil]; omega) (by simp only [lens, List.map_cons, List.map_nil, List.sum_cons, List.sum_nil]; omega) K (by omega)]
      simp only [Option.bind_some]
      have hfl : [l0, l1].flatten = l0 ++ l1 := by simp
      have hc : [(⟨a, b, c, d, e⟩ : Nd)] ++ l0 ++ l1 = (⟨a, b, c, d, e⟩ : Nd) :: (l0 ++ l1) := by simp
      rw [hfl, hc, R1' K (by omega)]
      simp only [Option.bind_some]
      rw [if_pos trivial, Node_eq _ _ _ _ _ _ (by decide) (by decide) K (by omega)]
      simp only [Option.bind_some, List.flatten_nil]
      rw [R2' K (by omega)]
      rfl
end Go.Proofs.Ytdelccahgchadaa.Pure
end
section
namespace Go.Proofs.Ytdelccahgchadaa.treeSame
open Go.ChangeShapes Go.WideShapes Go.ChangeAt Go.RowKit Go.Proofs.YtdelccahgchadaaW.PrintWords Go.Proofs.Ytdelccahgchadaa.P
open Go.ChangeMaps (open_string shut_string)
set_option linter.unusedVariables false
theorem own : ownKnob Try.prog.godebug = none := by kernel_rfl
theorem laidOut : laidOutB Try.prog = true := by kernel_rfl
set_option maxRecDepth 100000 in
theorem lifted (os : Os) (started : os.Started) (H : Type) (enc : TypeId × Value → H) :
    ReturnsInHanded {} Try.checked os 5 .any (Rows.treeSameSpec.pre6 enc Try.prog Try.f5 Rows.treeSameRow.domain false) (Rows.treeSameSpec.post enc Try.prog Try.f5 false true false false) := by
  refine returnsInHanded_of_change_sized (C := Try.checked) own started (by kernel_rfl) Try.func5
    (ChangeSpec.witness6 (enc := enc) (C := Try.checked) false ⟨#[], #[.slice none 0 0, .slice none 0 0, .agg #[.int .i64 0, .string ByteArray.empty, .string ByteArray.empty, .string ByteArray.empty, .slice none 0 0]], []⟩ 8 (by kernel_rfl) (by kernel_rfl) (by kernel_rfl) (by kernel_rfl)) ?_
  intro W base args ds gs before hval0 hW hcnd hsz0 _
  have hsz : (DataW.weightsEach Try.prog (Try.f5.params.toList ++ Rows.treeSameSpec.plain.varTypes Try.prog) (ds ++ gs)).all (· ≤ reachBytes) = true := hsz0
  have hval : ∀ (j : Nat) t v, Try.f5.params[j]? = some t → args[j]? = some v → Value.okWide Try.prog W .any base t v := hval0
  have hW' := hW
  obtain ⟨p, q, hA0, hV, rfl, hfz, hnd⟩ := hW
  have hA : DataW.TrodAll enc Try.prog W 0 (fun _ => true) true Try.f5.params.toList args.toList ds p := hA0
  rw [Try.params5] at hA hval hsz
  obtain ⟨v0, vs0, d0, ds0, p0, q0, hargs, rfl, rfl, h0, r0⟩ := trodAll_cons hA
  obtain ⟨v1, vs1, d1, ds1, p1, q1, rfl, rfl, rfl, h1, r1⟩ := trodAll_cons r0
  obtain ⟨v2, vs2, d2, ds2, p2, q2, rfl, rfl, rfl, h2, r2⟩ := trodAll_cons r1
  obtain ⟨rfl, rfl, rfl⟩ := trodAll_nil r2
  obtain rfl : args = #[v0, v1, v2] := by cases args; simp_all
  obtain ⟨rfl, rfl⟩ := trodVars_none hV
  have k0 := h0
  have lt0 := trod_places h0
  obtain ⟨A0, c0, l0, rfl, hc0, hr0, wf0⟩ := arg_slice Try.underlying22 (opens_slice Try.underlying22 (by kernel_rfl) (opens_iso (fun x : S25 => (x.f0, x.f1, x.f2, x.f3, x.f4)) (fun a => ⟨a.1, a.2.1, a.2.2.1, a.2.2.2.1, a.2.2.2.2⟩) (fun _ => rfl) (opens_struct Try.underlying25 (by kernel_rfl) (opensF_cons (by kernel_rfl) (by kernel_rfl) (opens_int Try.underlying3) (opensF_cons (by kernel_rfl) (by kernel_rfl) (opens_string Try.underlying9) (opensF_cons (by kernel_rfl) (by kernel_rfl) (opens_string Try.underlying9) (opensF_cons (by kernel_rfl) (by kernel_rfl) (opens_string Try.underlying9) (opensF_last (by kernel_rfl) (by kernel_rfl) (opens_slice Try.underlying23 (by kernel_rfl) (opens_string Try.underlying9)))))))))) (hval 0 22 v0 rfl rfl) h0
  have k1 := h1
  have lt1 := trod_places h1
  obtain ⟨A1, c1, l1, rfl, hc1, hr1, wf1⟩ := arg_slice Try.underlying22 (opens_slice Try.underlying22 (by kernel_rfl) (opens_iso (fun x : S25 => (x.f0, x.f1, x.f2, x.f3, x.f4)) (fun a => ⟨a.1, a.2.1, a.2.2.1, a.2.2.2.1, a.2.2.2.2⟩) (fun _ => rfl) (opens_struct Try.underlying25 (by kernel_rfl) (opensF_cons (by kernel_rfl) (by kernel_rfl) (opens_int Try.underlying3) (opensF_cons (by kernel_rfl) (by kernel_rfl) (opens_string Try.underlying9) (opensF_cons (by kernel_rfl) (by kernel_rfl) (opens_string Try.underlying9) (opensF_cons (by kernel_rfl) (by kernel_rfl) (opens_string Try.underlying9) (opensF_last (by kernel_rfl) (by kernel_rfl) (opens_slice Try.underlying23 (by kernel_rfl) (opens_string Try.underlying9)))))))))) (hval 1 22 v1 rfl rfl) h1
  have k2 := h2
  have lt2 := trod_places h2
  obtain ⟨a2, cs2, rfl, hk2, wf2⟩ := arg_struct Try.underlying25 (opens_iso (fun x : S25 => (x.f0, x.f1, x.f2, x.f3, x.f4)) (fun a => ⟨a.1, a.2.1, a.2.2.1, a.2.2.2.1, a.2.2.2.2⟩) (fun _ => rfl) (opens_struct Try.underlying25 (by kernel_rfl) (opensF_cons (by kernel_rfl) (by kernel_rfl) (opens_int Try.underlying3) (opensF_cons (by kernel_rfl) (by kernel_rfl) (opens_string Try.underlying9) (opensF_cons (by kernel_rfl) (by kernel_rfl) (opens_string Try.underlying9) (opensF_cons (by kernel_rfl) (by kernel_rfl) (opens_string Try.underlying9) (opensF_last (by kernel_rfl) (by kernel_rfl) (opens_slice Try.underlying23 (by kernel_rfl) (opens_string Try.underlying9))))))))) (hval 2 25 v2 rfl rfl) h2
  obtain ⟨A2_4, c2_4, hcs2, hc2_4, hr2_4⟩ := k25_open hk2
  obtain rfl := of_toList hcs2
  clear hA0 hval0 hsz0 hsz
  obtain ⟨k_, hp_⟩ := Pure.TreeSame l0 l1 (a2.f0) (a2.f1) (a2.f2) (a2.f3) (a2.f4) wf0 wf1 (wf2.1) (wf2.2.1) (wf2.2.2.1) (wf2.2.2.2.1) (wf2.2.2.2.2)
  refine (reredoslaw08_TreeSame.calls k_ (fun _ => True) A0 c0 l0 (fun _ => True) A1 c1 l1 (a2.f0) (a2.f1) (a2.f2) (a2.f3) (fun _ => True) A2_4 c2_4 (a2.f4) true W (Kd.V_mk hc0 (fun W_ h_ => Kd.Heap.C (by repeat (first | exact Kd.heap_string | exact Kd.heap_int _ | exact Kd.heap_bool | apply Kd.heap_iso | apply Kd.heap_pair | apply Kd.heap_slice)) (fun k_ hk_ => h_ k_ trivial hk_) hr0)) (Kd.V_mk hc1 (fun W_ h_ => Kd.Heap.C (by repeat (first | exact Kd.heap_string | exact Kd.heap_int _ | exact Kd.heap_bool | apply Kd.heap_iso | apply Kd.heap_pair | apply Kd.heap_slice)) (fun k_ hk_ => h_ k_ trivial hk_) hr1)) (Kd.V_mk hc2_4 (fun W_ h_ => Kd.Heap.C (by repeat (first | exact Kd.heap_string | exact Kd.heap_int _ | exact Kd.heap_bool | apply Kd.heap_iso | apply Kd.heap_pair | apply Kd.heap_slice)) (fun k_ hk_ => h_ k_ trivial hk_) hr2_4)) hp_).mono fun e W' hpost => ?_
  obtain ⟨he, bel0⟩ := hpost
  have bel : Below W.heap.size W W' := by first | exact bel0 | exact bel0.below
  subst he
  exact ⟨_, rfl, _, _, _, [], _, [], hW', trodAll_mk1 (shut_bool Try.underlying4 _), (trodAll_cons_mk (Below.trod laidOut (by kernel_rfl) (of_decide_eq_true (by kernel_rfl)) k0 bel lt0) (trodAll_cons_mk (Below.trod laidOut (by kernel_rfl) (of_decide_eq_true (by kernel_rfl)) k1 bel lt1) (trodAll_cons_mk (Below.trod laidOut (by kernel_rfl) (of_decide_eq_true (by kernel_rfl)) k2 bel lt2) trodAll_mk0))), rfl, bel.frame _, fun h => by cases h⟩
theorem over : Rows.treeSameRow.holds Try.pinned (OpenSpec.ofChange Rows.treeSameSpec) :=
  OpenClaim.holds_of_wide 5 Try.f5 rfl rfl rfl rfl rfl rfl rfl ⟨rfl, rfl, rfl, rfl, rfl⟩ rfl rfl rfl rfl rfl (by kernel_rfl) Try.func5 (by kernel_rfl)
    (of_decide_eq_true (by kernel_rfl)) (by unfold Func.isWrapper; first | (rw [if_pos (by decide +kernel)]; kernel_rfl) | (rw [if_neg (by decide +kernel)]; exact ⟨rfl, rfl⟩))
    (fun os started H enc _ => lifted os started H enc)
theorem proved : Rows.TreeSameSaid := over
#print axioms proved
end Go.Proofs.Ytdelccahgchadaa.treeSame
namespace Go.Proofs.Ytdelccahgchadaa
theorem treeSame_holds : Rows.TreeSameSaid := treeSame.proved
end Go.Proofs.Ytdelccahgchadaa
end
