/- Walks, written by a program out of the translation. -/
import Derived.Test.YtdelccahgchadaaPx0
import Derived.Test.YtdelccahgchadaaPx3
import Derived.Test.YtdelccahgchadaaPx4
import Derived.Test.YtdelccahgchadaaPx9
import Derived.Test.YtdelccahgchadaaPx11
import Derived.Test.YtdelccahgchadaaPx12
import Derived.Test.YtdelccahgchadaaGBase
import Derived.Test.YtdelccahgchadaaGLex
import Derived.Test.YtdelccahgchadaaGTree
namespace Go.Proofs.Ytdelccahgchadaa.P
open Go.RowKit Go.Proofs.YtdelccahgchadaaW.PrintWords Go.Proofs.YtdelccahgchadaaW.PrintLast Go.Proofs.YtdelccahgchadaaW.PrintMore
attribute [local go_sem] max2_int min2_int max_two min_two max_three min_three max_four min_four   -- for this text's walks alone
set_option linter.unusedVariables false
set_option linter.unusedSimpArgs false

/-! ### reredoslaw08_TreeCut: function 4 -/
def reredoslaw08_TreeCut.j0 : Nat → List (S25) → Bool → Bool → Int → ByteArray → ByteArray → ByteArray → List ByteArray → Option (Bool)
  | 0, _, _, _, _, _, _, _, _ => none
  | k + 1, x0, x5, x24, x351000, x351001, x351002, x351003, x351004 => if x24 = true then (some x5) else (if 0 ≤ (wrap64 ((x0.length : Int) - 1)) then (if (wrap64 ((x0.length : Int) - 1)) ≤ (x0.length : Int) then ((tree_End.f k (x0.take ((wrap64 ((x0.length : Int) - 1)) : Int).toNat) 0).bind fun bt359 => ((some (([] : List (S25)) : List (S25))).bind fun y361 => (if y361.length + x0.length < 1759218604441 then ((some (y361 ++ x0 : List (S25))).bind fun y364 => (if y364.length < 1759218604441 then ((some (y364 ++ [(⟨x351000, x351001, x351002, x351003, x351004⟩ : S25)] : List (S25))).bind fun y367 => ((tree_End.f k y367 0).bind fun bt370 => (if x5 = true then (if bt359.2 = true then (none) else (if bt370.2 = true then (if bt370.1 = (x0.length : Int) then ((tree_May.f k y367).bind fun t372 => (if t372 = true then (none) else ((tree_May.f k (x0.take ((wrap64 ((x0.length : Int) - 1)) : Int).toNat)).bind fun t378 => (if t378 = true then (none) else ((tree_Depth.f k y367).bind fun t379 => ((tree_Depth.f k x0).bind fun t380 => (some (t379 == t380)))))))) else (none)) else (none))) else (none)))) else (none))) else (none)))) else (none)) else (none))
def reredoslaw08_TreeCut.f (k : Nat) (l0 : List (S25)) (a1_0 : Int) (a1_1 : ByteArray) (a1_2 : ByteArray) (a1_3 : ByteArray) (l1_4 : List ByteArray) : Option (Bool) := (reredoslaw08_shown.f k).bind fun t351 => ((reredosref08_Few.f k l0).bind fun t352 => (if t352 = true then ((tree_May.f k l0).bind fun t353 => (if t353 = true then (reredoslaw08_TreeCut.j0 k l0 t351 ((l0.length : Int) == 0) a1_0 a1_1 a1_2 a1_3 l1_4) else (reredoslaw08_TreeCut.j0 k l0 t351 true a1_0 a1_1 a1_2 a1_3 l1_4))) else (reredoslaw08_TreeCut.j0 k l0 t351 true a1_0 a1_1 a1_2 a1_3 l1_4)))
theorem reredoslaw08_TreeCut.mono_l : ∀ k, (∀ y0 y1 y2 y3 y4 y5 y6 y7, LeO (reredoslaw08_TreeCut.j0 k y0 y1 y2 y3 y4 y5 y6 y7) (reredoslaw08_TreeCut.j0 (k + 1) y0 y1 y2 y3 y4 y5 y6 y7))
  | 0 => fun _ _ _ _ _ _ _ _ r h => by simp [reredoslaw08_TreeCut.j0] at h
  | k + 1 => by
    have ih0 := reredoslaw08_TreeCut.mono_l k
    · intro y0 y1 y2 y3 y4 y5 y6 y7
      unfold reredoslaw08_TreeCut.j0
      repeat' first
      | (with_reducible exact ih0 _ _ _ _ _ _ _ _)
      | (with_reducible exact reredoslaw08_shown.mono _)
      | (with_reducible exact reredosref08_Few.mono _ _)
      | (with_reducible exact tree_Depth.mono _ _)
      | (with_reducible exact tree_End.mono _ _ _)
      | (with_reducible exact tree_May.mono _ _)
      | (with_reducible exact LeO.refl _)
      | (with_reducible exact LeO.none _)
      | (with_reducible refine LeO.ite ?_ ?_)
      | (with_reducible refine LeO.bind ?_ (fun _ => ?_))
      | exact ih0 _ _ _ _ _ _ _ _
      | exact reredoslaw08_shown.mono _
      | exact reredosref08_Few.mono _ _
      | exact tree_Depth.mono _ _
      | exact tree_End.mono _ _ _
      | exact tree_May.mono _ _
      | exact LeO.none _
      | refine LeO.ite ?_ ?_
      | refine LeO.bind ?_ (fun _ => ?_)
theorem reredoslaw08_TreeCut.mono : ∀ a0 a1 a2 a3 a4 a5 k, LeO (reredoslaw08_TreeCut.f k a0 a1 a2 a3 a4 a5) (reredoslaw08_TreeCut.f (k + 1) a0 a1 a2 a3 a4 a5) := by
  intro a0 a1 a2 a3 a4 a5 k
  have ih0 := reredoslaw08_TreeCut.mono_l k
  unfold reredoslaw08_TreeCut.f
  repeat' first
      | (with_reducible exact ih0 _ _ _ _ _ _ _ _)
      | (with_reducible exact reredoslaw08_shown.mono _)
      | (with_reducible exact reredosref08_Few.mono _ _)
      | (with_reducible exact tree_Depth.mono _ _)
      | (with_reducible exact tree_End.mono _ _ _)
      | (with_reducible exact tree_May.mono _ _)
      | (with_reducible exact LeO.refl _)
      | (with_reducible exact LeO.none _)
      | (with_reducible refine LeO.ite ?_ ?_)
      | (with_reducible refine LeO.bind ?_ (fun _ => ?_))
      | exact ih0 _ _ _ _ _ _ _ _
      | exact reredoslaw08_shown.mono _
      | exact reredosref08_Few.mono _ _
      | exact tree_Depth.mono _ _
      | exact tree_End.mono _ _ _
      | exact tree_May.mono _ _
      | exact LeO.none _
      | refine LeO.ite ?_ ?_
      | refine LeO.bind ?_ (fun _ => ?_)
set_option maxHeartbeats 8000000 in
set_option maxRecDepth 100000 in
theorem reredoslaw08_TreeCut.calls (k : Nat) (P0_ : Nat → Prop) (A0 : Option Addr) (c0 : Nat) (l0 : List (S25)) (a1_0 : Int) (a1_1 : ByteArray) (a1_2 : ByteArray) (a1_3 : ByteArray) (P1_4_ : Nat → Prop) (A1_4 : Option Addr) (c1_4 : Nat) (l1_4 : List ByteArray) (r : Bool) (w : World) (hs0 : Kd.V k25 25 w w.heap.size (fun k_ => P0_ k_) (.slice A0 l0.length c0) l0) (hs1_4 : Kd.V Kd.string 9 w w.heap.size (fun k_ => P1_4_ k_) (.slice A1_4 l1_4.length c1_4) l1_4) (h : reredoslaw08_TreeCut.f k l0 a1_0 a1_1 a1_2 a1_3 l1_4 = some r) :
    Calls Try.prog 4 #[.slice A0 l0.length c0, .agg #[.int .i64 a1_0, .string a1_1, .string a1_2, .string a1_3, .slice A1_4 l1_4.length c1_4]] w fun e w' => e = .returned (.bool r) ∧ Below w.heap.size w w' := by
  have hu25 := Try.underlying25
  have HO0 := Aside0.mk (show Kd.V k25 25 w w.heap.size (fun k_ => ((P0_ k_ ∨ P1_4_ k_) ∨ w.heap.size ≤ k_)) (.slice A0 l0.length c0) l0 from Kd.V_mono hs0 (fun k_ hk => .inl (.inl hk)))
  have HO1_4 := Aside0.mk (show Kd.V Kd.string 9 w w.heap.size (fun k_ => ((P0_ k_ ∨ P1_4_ k_) ∨ w.heap.size ≤ k_)) (.slice A1_4 l1_4.length c1_4) l1_4 from Kd.V_mono hs1_4 (fun k_ hk => .inl (.inr hk)))
  have HB := Aside0.mk (Below.refl w.heap.size w)
  have H : ((reredoslaw08_shown.f k).bind fun t351 => ((reredosref08_Few.f k l0).bind fun t352 => (if t352 = true then ((tree_May.f k l0).bind fun t353 => (if t353 = true then (reredoslaw08_TreeCut.j0 k l0 t351 ((l0.length : Int) == 0) a1_0 a1_1 a1_2 a1_3 l1_4) else (reredoslaw08_TreeCut.j0 k l0 t351 true a1_0 a1_1 a1_2 a1_3 l1_4))) else (reredoslaw08_TreeCut.j0 k l0 t351 true a1_0 a1_1 a1_2 a1_3 l1_4)))) = some r := h
  clear h
  replace H := Option.bind_eq_some_iff.mp H
  obtain ⟨t351, A30, H⟩ := H
  replace H : ((reredosref08_Few.f k l0).bind fun t352 => (if t352 = true then ((tree_May.f k l0).bind fun t353 => (if t353 = true then (reredoslaw08_TreeCut.j0 k l0 t351 ((l0.length : Int) == 0) a1_0 a1_1 a1_2 a1_3 l1_4) else (reredoslaw08_TreeCut.j0 k l0 t351 true a1_0 a1_1 a1_2 a1_3 l1_4))) else (reredoslaw08_TreeCut.j0 k l0 t351 true a1_0 a1_1 a1_2 a1_3 l1_4))) = some r := H
  have A3 := Aside0.mk A30
  clear A30
  have HC4 := Aside0.mk H
  clear H
  go_enter Try.func4, Try.ntmps4
  go_upto_region 2 with (first | ((with_reducible refine gate_dst (N := 3) rfl ?_); (try (refine gate_guard (by rfl) ?_; dsimp only)); refine box_event ?hg (N := 3) ?hd (cs := #[.int .i64 a1_0, .string a1_1, .string a1_2, .string a1_3, .slice A1_4 l1_4.length c1_4]) (t := 25) ?hr ?_; (case hd => rfl); (case hg => rfl); (case hr => first | (go_simp; done) | (go_simp; rfl)); intro gb350 hg w5 hbox hb; have n0_ := Aside0.mk (Kd.V_below (Kd.V_elderB (by (with_reducible repeat (first | apply Kd.V_alloc | apply Kd.V_drewN | apply Kd.V_drew)); exact HO0.out) gb350 (Nat.le_of_eq hg.symm)) hb); have n1_ := Aside0.mk (Kd.V_below (Kd.V_elderB (by (with_reducible repeat (first | apply Kd.V_alloc | apply Kd.V_drewN | apply Kd.V_drew)); exact HO1_4.out) gb350 (Nat.le_of_eq hg.symm)) hb); have n2_ := Aside0.mk (below_step (by repeat (first | (with_reducible first | exact HB.out | apply below_alloc | apply pw_below_drewN | apply below_drew1) | exact HB.out)) hb); have n3_ := Aside0.mk (hbox); have n4_ := Aside0.mk ((by rw [hg]; exact (below_size (by repeat (first | (with_reducible first | exact HB.out | apply below_alloc | apply pw_below_drewN | apply below_drew1) | exact HB.out))) : w.heap.size ≤ gb350)); have n5_ := Aside0.mk ((by rw [hg]; exact (below_size (by repeat (first | (with_reducible first | exact HB.out | apply below_alloc | apply pw_below_drewN | apply below_drew1) | exact HB.out))) : w.heap.size ≤ gb350)); clear HO0; clear HO1_4; clear HB; have HO0 := n0_; have HO1_4 := n1_; have HB := n2_; have BK350 := n3_; have GW350 := n4_; have GE350 := n5_; clear n0_ n1_ n2_ n3_ n4_ n5_; clear hb hbox hg) | ((with_reducible refine gate_callee (f := 17) rfl ?_); refine goesL_ (some 11) rfl rfl Try.func17 (by kernel_rfl) rfl #[] rfl (by (try simp only [List.map_toArray, List.map_cons, List.map_nil]); first | done | rfl | (simp only [List.length_drop, List.length_take]; rfl)) ?_; (with_reducible refine (reredoslaw08_shown.calls k  t351 _ A3.out).mono ?_); rintro e w6 ⟨rfl, hb⟩; refine ⟨_, rfl, ?_⟩; have n0_ := Aside0.mk (Kd.V_below (by (with_reducible repeat (first | apply Kd.V_alloc | apply Kd.V_drewN | apply Kd.V_drew)); exact HO0.out) hb); have n1_ := Aside0.mk (Kd.V_below (by (with_reducible repeat (first | apply Kd.V_alloc | apply Kd.V_drewN | apply Kd.V_drew)); exact HO1_4.out) hb); have n2_ := Aside0.mk (blk_below (g := gb350) (o := .cells #[.int .i64 a1_0, .string a1_1, .string a1_2, .string a1_3, .slice A1_4 l1_4.length c1_4] 25 (0, 0)) (by (with_reducible repeat (first | refine blk_drewN ?_ _ | refine blk_drew ?_ | refine blk_alloc ?_ _)); exact BK350.out) hb); have n3_ := Aside0.mk (below_step (by repeat (first | (with_reducible first | exact HB.out | apply below_alloc | apply pw_below_drewN | apply below_drew1 | refine below_set ?_ GE350.out) | exact HB.out)) hb); clear HO0; clear HO1_4; clear BK350; clear HB; have HO0 := n0_; have HO1_4 := n1_; have BK350 := n2_; have HB := n3_; clear n0_ n1_ n2_ n3_; (try clear hb); (try clear hb2); (try clear hk); (try clear hi)))
  (try simp only [Act.put, List.setIfInBounds_toArray, List.set_cons_zero, List.set_cons_succ])
  go_cut [24] (fun v24 wc => ∃ (kq : Nat) (x24_3 : Bool), v24 = .bool x24_3 ∧ Aside0 (reredoslaw08_TreeCut.j0 kq l0 t351 x24_3 a1_0 a1_1 a1_2 a1_3 l1_4 = some r) ∧ Aside0 (kq ≤ k) ∧ Aside0 (Kd.V k25 25 wc w.heap.size (fun k_ => ((P0_ k_ ∨ P1_4_ k_) ∨ w.heap.size ≤ k_) ∧ k_ ≠ gb350) (.slice A0 l0.length c0) l0) ∧ Aside0 (Kd.V Kd.string 9 wc w.heap.size (fun k_ => ((P0_ k_ ∨ P1_4_ k_) ∨ w.heap.size ≤ k_) ∧ k_ ≠ gb350) (.slice A1_4 l1_4.length c1_4) l1_4) ∧ Aside0 (wc.heap[gb350]? = some (.cells #[.int .i64 a1_0, .string a1_1, .string a1_2, .string a1_3, (.slice A1_4 l1_4.length c1_4)] 25 (0, 0))) ∧ Aside0 (Below w.heap.size w wc))
  case first =>
    have H := HC4.out
    clear HC4
    replace H := Option.bind_eq_some_iff.mp H
    obtain ⟨t352, A70, H⟩ := H
    replace H : (if t352 = true then ((tree_May.f k l0).bind fun t353 => (if t353 = true then (reredoslaw08_TreeCut.j0 k l0 t351 ((l0.length : Int) == 0) a1_0 a1_1 a1_2 a1_3 l1_4) else (reredoslaw08_TreeCut.j0 k l0 t351 true a1_0 a1_1 a1_2 a1_3 l1_4))) else (reredoslaw08_TreeCut.j0 k l0 t351 true a1_0 a1_1 a1_2 a1_3 l1_4)) = some r := H
    have A7 := Aside0.mk A70
    clear A70
    by_cases c8 : t352 = true
    · subst c8
      have H1 : ((tree_May.f k l0).bind fun t353 => (if t353 = true then (reredoslaw08_TreeCut.j0 k l0 t351 ((l0.length : Int) == 0) a1_0 a1_1 a1_2 a1_3 l1_4) else (reredoslaw08_TreeCut.j0 k l0 t351 true a1_0 a1_1 a1_2 a1_3 l1_4))) = some r := by rw [if_pos rfl] at H; exact H
      clear H
      have H := H1
      clear H1
      replace H := Option.bind_eq_some_iff.mp H
      obtain ⟨t353, A90, H⟩ := H
      replace H : (if t353 = true then (reredoslaw08_TreeCut.j0 k l0 t351 ((l0.length : Int) == 0) a1_0 a1_1 a1_2 a1_3 l1_4) else (reredoslaw08_TreeCut.j0 k l0 t351 true a1_0 a1_1 a1_2 a1_3 l1_4)) = some r := H
      have A9 := Aside0.mk A90
      clear A90
      by_cases c10 : t353 = true
      · subst c10
        have H1 : (reredoslaw08_TreeCut.j0 k l0 t351 ((l0.length : Int) == 0) a1_0 a1_1 a1_2 a1_3 l1_4) = some r := by rw [if_pos rfl] at H; exact H
        clear H
        have H := H1
        clear H1
        have H' := Aside0.mk H
        clear H
        go_wp2_with (first | ((with_reducible refine gate_callee (f := 18) rfl ?_); refine goesL_ (some 13) rfl rfl Try.func18 (by kernel_rfl) rfl #[.slice A0 l0.length c0] rfl (by (try simp only [List.map_toArray, List.map_cons, List.map_nil]); first | done | rfl | (simp only [List.length_drop, List.length_take]; rfl)) ?_; (with_reducible refine (reredosref08_Few.calls k _ _ l0 true _ ?side1 ?side2 A7.out).mono ?_); (case side1 => repeat (first | exact (Kd.V_reads' HO0.out).2.2 | (with_reducible refine Kd.C_alloc ?_ _) | (with_reducible refine Kd.C_drewN ?_ _) | (with_reducible refine Kd.C_drew ?_))); (case side2 => exact (Kd.V_reads' HO0.out).2.1); rintro e w' ⟨rfl, ⟨nd, rfl⟩⟩; refine ⟨_, rfl, ?_⟩) | (go_at_call 28; (with_reducible refine (tree_May.calls k _ _ l0 true _ ?side1 ?side2 A9.out).mono ?_); (case side1 => repeat (first | exact (Kd.V_reads' HO0.out).2.2 | (with_reducible refine Kd.C_alloc ?_ _) | (with_reducible refine Kd.C_drewN ?_ _) | (with_reducible refine Kd.C_drew ?_))); (case side2 => exact (Kd.V_reads' HO0.out).2.1); rintro e w11 ⟨rfl, hb⟩; have n0_ := Aside0.mk (Kd.V_below (by (with_reducible repeat (first | apply Kd.V_alloc | apply Kd.V_drewN | apply Kd.V_drew)); exact HO0.out) hb); have n1_ := Aside0.mk (Kd.V_below (by (with_reducible repeat (first | apply Kd.V_alloc | apply Kd.V_drewN | apply Kd.V_drew)); exact HO1_4.out) hb); have n2_ := Aside0.mk (blk_below (g := gb350) (o := .cells #[.int .i64 a1_0, .string a1_1, .string a1_2, .string a1_3, .slice A1_4 l1_4.length c1_4] 25 (0, 0)) (by (with_reducible repeat (first | refine blk_drewN ?_ _ | refine blk_drew ?_ | refine blk_alloc ?_ _)); exact BK350.out) hb); have n3_ := Aside0.mk (below_step (by repeat (first | (with_reducible first | exact HB.out | apply below_alloc | apply pw_below_drewN | apply below_drew1 | refine below_set ?_ GE350.out) | exact HB.out)) hb); clear HO0; clear HO1_4; clear BK350; clear HB; have HO0 := n0_; have HO1_4 := n1_; have BK350 := n2_; have HB := n3_; clear n0_ n1_ n2_ n3_; (try clear hb); (try clear hb2); (try clear hk); (try clear hi)))
        go_meet
        case rel => exact ⟨_, (((l0.length : Int) == 0)), (by first | rfl | (simp; done) | (simp [*]; done)), H', ⟨by first | omega | exact Nat.le_refl _⟩, ⟨by (with_reducible repeat (first | apply Kd.V_alloc | apply Kd.V_drewN | apply Kd.V_drew)); exact HO0.out⟩, ⟨by (with_reducible repeat (first | apply Kd.V_alloc | apply Kd.V_drewN | apply Kd.V_drew)); exact HO1_4.out⟩, ⟨by (with_reducible repeat (first | refine blk_drewN ?_ _ | refine blk_drew ?_ | refine blk_alloc ?_ _)); exact BK350.out⟩, ⟨by repeat (first | (with_reducible first | exact HB.out | apply below_alloc | apply pw_below_drewN | apply below_drew1 | refine below_set ?_ GE350.out) | exact HB.out)⟩⟩
      · replace c10 := Bool.eq_false_iff.mpr c10
        subst c10
        have H1 : (reredoslaw08_TreeCut.j0 k l0 t351 true a1_0 a1_1 a1_2 a1_3 l1_4) = some r := by rw [if_neg (show ¬ (false = true) by decide)] at H; exact H
        clear H
        have H := H1
        clear H1
        have H' := Aside0.mk H
        clear H
        go_wp2_with (first | ((with_reducible refine gate_callee (f := 18) rfl ?_); refine goesL_ (some 13) rfl rfl Try.func18 (by kernel_rfl) rfl #[.slice A0 l0.length c0] rfl (by (try simp only [List.map_toArray, List.map_cons, List.map_nil]); first | done | rfl | (simp only [List.length_drop, List.length_take]; rfl)) ?_; (with_reducible refine (reredosref08_Few.calls k _ _ l0 true _ ?side1 ?side2 A7.out).mono ?_); (case side1 => repeat (first | exact (Kd.V_reads' HO0.out).2.2 | (with_reducible refine Kd.C_alloc ?_ _) | (with_reducible refine Kd.C_drewN ?_ _) | (with_reducible refine Kd.C_drew ?_))); (case side2 => exact (Kd.V_reads' HO0.out).2.1); rintro e w' ⟨rfl, ⟨nd, rfl⟩⟩; refine ⟨_, rfl, ?_⟩) | (go_at_call 28; (with_reducible refine (tree_May.calls k _ _ l0 false _ ?side1 ?side2 A9.out).mono ?_); (case side1 => repeat (first | exact (Kd.V_reads' HO0.out).2.2 | (with_reducible refine Kd.C_alloc ?_ _) | (with_reducible refine Kd.C_drewN ?_ _) | (with_reducible refine Kd.C_drew ?_))); (case side2 => exact (Kd.V_reads' HO0.out).2.1); rintro e w12 ⟨rfl, hb⟩; have n0_ := Aside0.mk (Kd.V_below (by (with_reducible repeat (first | apply Kd.V_alloc | apply Kd.V_drewN | apply Kd.V_drew)); exact HO0.out) hb); have n1_ := Aside0.mk (Kd.V_below (by (with_reducible repeat (first | apply Kd.V_alloc | apply Kd.V_drewN | apply Kd.V_drew)); exact HO1_4.out) hb); have n2_ := Aside0.mk (blk_below (g := gb350) (o := .cells #[.int .i64 a1_0, .string a1_1, .string a1_2, .string a1_3, .slice A1_4 l1_4.length c1_4] 25 (0, 0)) (by (with_reducible repeat (first | refine blk_drewN ?_ _ | refine blk_drew ?_ | refine blk_alloc ?_ _)); exact BK350.out) hb); have n3_ := Aside0.mk (below_step (by repeat (first | (with_reducible first | exact HB.out | apply below_alloc | apply pw_below_drewN | apply below_drew1 | refine below_set ?_ GE350.out) | exact HB.out)) hb); clear HO0; clear HO1_4; clear BK350; clear HB; have HO0 := n0_; have HO1_4 := n1_; have BK350 := n2_; have HB := n3_; clear n0_ n1_ n2_ n3_; (try clear hb); (try clear hb2); (try clear hk); (try clear hi)))
        go_meet
        case rel => exact ⟨_, (true), (by first | rfl | (simp; done) | (simp [*]; done)), H', ⟨by first | omega | exact Nat.le_refl _⟩, ⟨by (with_reducible repeat (first | apply Kd.V_alloc | apply Kd.V_drewN | apply Kd.V_drew)); exact HO0.out⟩, ⟨by (with_reducible repeat (first | apply Kd.V_alloc | apply Kd.V_drewN | apply Kd.V_drew)); exact HO1_4.out⟩, ⟨by (with_reducible repeat (first | refine blk_drewN ?_ _ | refine blk_drew ?_ | refine blk_alloc ?_ _)); exact BK350.out⟩, ⟨by repeat (first | (with_reducible first | exact HB.out | apply below_alloc | apply pw_below_drewN | apply below_drew1 | refine below_set ?_ GE350.out) | exact HB.out)⟩⟩
    · replace c8 := Bool.eq_false_iff.mpr c8
      subst c8
      have H1 : (reredoslaw08_TreeCut.j0 k l0 t351 true a1_0 a1_1 a1_2 a1_3 l1_4) = some r := by rw [if_neg (show ¬ (false = true) by decide)] at H; exact H
      clear H
      have H := H1
      clear H1
      have H' := Aside0.mk H
      clear H
      go_wp2_with (first | ((with_reducible refine gate_callee (f := 18) rfl ?_); refine goesL_ (some 13) rfl rfl Try.func18 (by kernel_rfl) rfl #[.slice A0 l0.length c0] rfl (by (try simp only [List.map_toArray, List.map_cons, List.map_nil]); first | done | rfl | (simp only [List.length_drop, List.length_take]; rfl)) ?_; (with_reducible refine (reredosref08_Few.calls k _ _ l0 false _ ?side1 ?side2 A7.out).mono ?_); (case side1 => repeat (first | exact (Kd.V_reads' HO0.out).2.2 | (with_reducible refine Kd.C_alloc ?_ _) | (with_reducible refine Kd.C_drewN ?_ _) | (with_reducible refine Kd.C_drew ?_))); (case side2 => exact (Kd.V_reads' HO0.out).2.1); rintro e w' ⟨rfl, ⟨nd, rfl⟩⟩; refine ⟨_, rfl, ?_⟩))
      go_meet
      case rel => exact ⟨_, (true), (by first | rfl | (simp; done) | (simp [*]; done)), H', ⟨by first | omega | exact Nat.le_refl _⟩, ⟨by (with_reducible repeat (first | apply Kd.V_alloc | apply Kd.V_drewN | apply Kd.V_drew)); exact HO0.out⟩, ⟨by (with_reducible repeat (first | apply Kd.V_alloc | apply Kd.V_drewN | apply Kd.V_drew)); exact HO1_4.out⟩, ⟨by (with_reducible repeat (first | refine blk_drewN ?_ _ | refine blk_drew ?_ | refine blk_alloc ?_ _)); exact BK350.out⟩, ⟨by repeat (first | (with_reducible first | exact HB.out | apply below_alloc | apply pw_below_drewN | apply below_drew1 | refine below_set ?_ GE350.out) | exact HB.out)⟩⟩
  case rest =>
    clear HC4
    try clear c1
    try clear p2
    try clear c4
    try clear c8
    try clear c10
    obtain ⟨kq, x24_3, rfl, HA, HJ3, HO_0, HO_351004, BK350, HB⟩ := hcut
    cases kq with
    | zero => exact absurd HA.out (by simp [reredoslaw08_TreeCut.j0])
    | succ kj3 =>
      have H := HA.out
      clear HA
      simp only [reredoslaw08_TreeCut.j0] at H
      by_cases c13 : x24_3 = true
      · subst c13
        have H1 : (some t351) = some r := by rw [if_pos rfl] at H; exact H
        clear H
        have H := H1
        clear H1
        obtain rfl := Option.some.inj H
        go_wp2
        go_ret
        exact ⟨by first | rfl | (simp [errW_none, errW_some] <;> rfl) | (simp [*, errW_none, errW_some] <;> rfl), by repeat (first | (with_reducible first | exact HB.out | apply below_alloc | apply pw_below_drewN | apply below_drew1 | refine below_set ?_ GE350.out) | exact HB.out)⟩
      · replace c13 := Bool.eq_false_iff.mpr c13
        subst c13
        have H1 : (if 0 ≤ (wrap64 ((l0.length : Int) - 1)) then (if (wrap64 ((l0.length : Int) - 1)) ≤ (l0.length : Int) then ((tree_End.f kj3 (l0.take ((wrap64 ((l0.length : Int) - 1)) : Int).toNat) 0).bind fun bt359 => ((some (([] : List (S25)) : List (S25))).bind fun y361 => (if y361.length + l0.length < 1759218604441 then ((some (y361 ++ l0 : List (S25))).bind fun y364 => (if y364.length < 1759218604441 then ((some (y364 ++ [(⟨a1_0, a1_1, a1_2, a1_3, l1_4⟩ : S25)] : List (S25))).bind fun y367 => ((tree_End.f kj3 y367 0).bind fun bt370 => (if t351 = true then (if bt359.2 = true then (none) else (if bt370.2 = true then (if bt370.1 = (l0.length : Int) then ((tree_May.f kj3 y367).bind fun t372 => (if t372 = true then (none) else ((tree_May.f kj3 (l0.take ((wrap64 ((l0.length : Int) - 1)) : Int).toNat)).bind fun t378 => (if t378 = true then (none) else ((tree_Depth.f kj3 y367).bind fun t379 => ((tree_Depth.f kj3 l0).bind fun t380 => (some (t379 == t380)))))))) else (none)) else (none))) else (none)))) else (none))) else (none)))) else (none)) else (none)) = some r := by rw [if_neg (show ¬ (false = true) by decide)] at H; exact H
        clear H
        have H := H1
        clear H1
        obtain ⟨ji14, hji14⟩ : ∃ j_ : Int, (wrap64 ((l0.length : Int) - 1)) = j_ := ⟨_, rfl⟩
        replace H : (if 0 ≤ (ji14) then (if (ji14) ≤ (l0.length : Int) then ((tree_End.f kj3 (l0.take ((ji14) : Int).toNat) 0).bind fun bt359 => ((some (([] : List (S25)) : List (S25))).bind fun y361 => (if y361.length + l0.length < 1759218604441 then ((some (y361 ++ l0 : List (S25))).bind fun y364 => (if y364.length < 1759218604441 then ((some (y364 ++ [(⟨a1_0, a1_1, a1_2, a1_3, l1_4⟩ : S25)] : List (S25))).bind fun y367 => ((tree_End.f kj3 y367 0).bind fun bt370 => (if t351 = true then (if bt359.2 = true then (none) else (if bt370.2 = true then (if bt370.1 = (l0.length : Int) then ((tree_May.f kj3 y367).bind fun t372 => (if t372 = true then (none) else ((tree_May.f kj3 (l0.take ((ji14) : Int).toNat)).bind fun t378 => (if t378 = true then (none) else ((tree_Depth.f kj3 y367).bind fun t379 => ((tree_Depth.f kj3 l0).bind fun t380 => (some (t379 == t380)))))))) else (none)) else (none))) else (none)))) else (none))) else (none)))) else (none)) else (none)) = some r := by first | (rw [hji14] at H; exact H) | (simp only [hji14] at H ⊢; exact H)
        have hji14w : (IntKind.i64.wrap ((l0.length : Int) - 1)) = ji14 := (i64_w _).trans hji14
        by_cases c15 : 0 ≤ (ji14)
        · rw [if_pos c15] at H
          have c15b0 := eq_true c15
          have c15b1 : decide (0 ≤ (ji14)) = true := decide_eq_true c15
          clear c15
          by_cases c16 : (ji14) ≤ (l0.length : Int)
          · rw [if_pos c16] at H
            have c16b0 := eq_true c16
            have c16b1 : decide ((ji14) ≤ (l0.length : Int)) = true := decide_eq_true c16
            clear c16
            obtain ⟨y354, hy354⟩ : ∃ y_ : List (S25), y_ = (l0.take ((ji14) : Int).toNat) := ⟨_, rfl⟩
            replace H : ((tree_End.f kj3 y354 0).bind fun bt359 => ((some (([] : List (S25)) : List (S25))).bind fun y361 => (if y361.length + l0.length < 1759218604441 then ((some (y361 ++ l0 : List (S25))).bind fun y364 => (if y364.length < 1759218604441 then ((some (y364 ++ [(⟨a1_0, a1_1, a1_2, a1_3, l1_4⟩ : S25)] : List (S25))).bind fun y367 => ((tree_End.f kj3 y367 0).bind fun bt370 => (if t351 = true then (if bt359.2 = true then (none) else (if bt370.2 = true then (if bt370.1 = (l0.length : Int) then ((tree_May.f kj3 y367).bind fun t372 => (if t372 = true then (none) else ((tree_May.f kj3 (l0.take ((ji14) : Int).toNat)).bind fun t378 => (if t378 = true then (none) else ((tree_Depth.f kj3 y367).bind fun t379 => ((tree_Depth.f kj3 l0).bind fun t380 => (some (t379 == t380)))))))) else (none)) else (none))) else (none)))) else (none))) else (none)))) = some r := by first | (rw [hy354]; with_reducible exact H) | (have H2_ := (Option.bind_some _ _).symm.trans H; rw [hy354]; with_reducible exact H2_) | (have H2_ := (Option.bind_some _ _).symm.trans H; with_reducible exact H2_) | with_reducible exact H | (rw [hy354]; exact H) | exact H
            have Ny354 := Aside0.mk hy354
            clear hy354
            replace H := Option.bind_eq_some_iff.mp H
            obtain ⟨⟨t359, t360⟩, A170, H⟩ := H
            replace H : ((some (([] : List (S25)) : List (S25))).bind fun y361 => (if y361.length + l0.length < 1759218604441 then ((some (y361 ++ l0 : List (S25))).bind fun y364 => (if y364.length < 1759218604441 then ((some (y364 ++ [(⟨a1_0, a1_1, a1_2, a1_3, l1_4⟩ : S25)] : List (S25))).bind fun y367 => ((tree_End.f kj3 y367 0).bind fun bt370 => (if t351 = true then (if t360 = true then (none) else (if bt370.2 = true then (if bt370.1 = (l0.length : Int) then ((tree_May.f kj3 y367).bind fun t372 => (if t372 = true then (none) else ((tree_May.f kj3 (l0.take ((ji14) : Int).toNat)).bind fun t378 => (if t378 = true then (none) else ((tree_Depth.f kj3 y367).bind fun t379 => ((tree_Depth.f kj3 l0).bind fun t380 => (some (t379 == t380)))))))) else (none)) else (none))) else (none)))) else (none))) else (none))) = some r := H
            have A17 := Aside0.mk A170
            clear A170
            obtain ⟨y361, hy361⟩ : ∃ y_ : List (S25), y_ = (([] : List (S25))) := ⟨_, rfl⟩
            replace H : (if y361.length + l0.length < 1759218604441 then ((some (y361 ++ l0 : List (S25))).bind fun y364 => (if y364.length < 1759218604441 then ((some (y364 ++ [(⟨a1_0, a1_1, a1_2, a1_3, l1_4⟩ : S25)] : List (S25))).bind fun y367 => ((tree_End.f kj3 y367 0).bind fun bt370 => (if t351 = true then (if t360 = true then (none) else (if bt370.2 = true then (if bt370.1 = (l0.length : Int) then ((tree_May.f kj3 y367).bind fun t372 => (if t372 = true then (none) else ((tree_May.f kj3 (l0.take ((ji14) : Int).toNat)).bind fun t378 => (if t378 = true then (none) else ((tree_Depth.f kj3 y367).bind fun t379 => ((tree_Depth.f kj3 l0).bind fun t380 => (some (t379 == t380)))))))) else (none)) else (none))) else (none)))) else (none))) else (none)) = some r := by first | (rw [hy361]; with_reducible exact H) | (have H2_ := (Option.bind_some _ _).symm.trans H; rw [hy361]; with_reducible exact H2_) | (have H2_ := (Option.bind_some _ _).symm.trans H; with_reducible exact H2_) | with_reducible exact H | (rw [hy361]; exact H) | exact H
            have Ny361 := Aside0.mk hy361
            clear hy361
            by_cases c18 : y361.length + l0.length < 1759218604441
            · rw [if_pos c18] at H
              have LMc18 := Aside0.mk c18
              clear c18
              obtain ⟨y364, hy364⟩ : ∃ y_ : List (S25), y_ = (y361 ++ l0) := ⟨_, rfl⟩
              replace H : (if y364.length < 1759218604441 then ((some (y364 ++ [(⟨a1_0, a1_1, a1_2, a1_3, l1_4⟩ : S25)] : List (S25))).bind fun y367 => ((tree_End.f kj3 y367 0).bind fun bt370 => (if t351 = true then (if t360 = true then (none) else (if bt370.2 = true then (if bt370.1 = (l0.length : Int) then ((tree_May.f kj3 y367).bind fun t372 => (if t372 = true then (none) else ((tree_May.f kj3 (l0.take ((ji14) : Int).toNat)).bind fun t378 => (if t378 = true then (none) else ((tree_Depth.f kj3 y367).bind fun t379 => ((tree_Depth.f kj3 l0).bind fun t380 => (some (t379 == t380)))))))) else (none)) else (none))) else (none)))) else (none)) = some r := by first | (rw [hy364]; with_reducible exact H) | (have H2_ := (Option.bind_some _ _).symm.trans H; rw [hy364]; with_reducible exact H2_) | (have H2_ := (Option.bind_some _ _).symm.trans H; with_reducible exact H2_) | with_reducible exact H | (rw [hy364]; exact H) | exact H
              have Ny364 := Aside0.mk hy364
              clear hy364
              by_cases c19 : y364.length < 1759218604441
              · rw [if_pos c19] at H
                have LMc19 := Aside0.mk c19
                clear c19
                obtain ⟨y367, hy367⟩ : ∃ y_ : List (S25), y_ = (y364 ++ [(⟨a1_0, a1_1, a1_2, a1_3, l1_4⟩ : S25)]) := ⟨_, rfl⟩
                replace H : ((tree_End.f kj3 y367 0).bind fun bt370 => (if t351 = true then (if t360 = true then (none) else (if bt370.2 = true then (if bt370.1 = (l0.length : Int) then ((tree_May.f kj3 y367).bind fun t372 => (if t372 = true then (none) else ((tree_May.f kj3 (l0.take ((ji14) : Int).toNat)).bind fun t378 => (if t378 = true then (none) else ((tree_Depth.f kj3 y367).bind fun t379 => ((tree_Depth.f kj3 l0).bind fun t380 => (some (t379 == t380)))))))) else (none)) else (none))) else (none))) = some r := by first | (rw [hy367]; with_reducible exact H) | (have H2_ := (Option.bind_some _ _).symm.trans H; rw [hy367]; with_reducible exact H2_) | (have H2_ := (Option.bind_some _ _).symm.trans H; with_reducible exact H2_) | with_reducible exact H | (rw [hy367]; exact H) | exact H
                have Ny367 := Aside0.mk hy367
                clear hy367
                replace H := Option.bind_eq_some_iff.mp H
                obtain ⟨⟨t370, t371⟩, A200, H⟩ := H
                replace H : (if t351 = true then (if t360 = true then (none) else (if t371 = true then (if t370 = (l0.length : Int) then ((tree_May.f kj3 y367).bind fun t372 => (if t372 = true then (none) else ((tree_May.f kj3 (l0.take ((ji14) : Int).toNat)).bind fun t378 => (if t378 = true then (none) else ((tree_Depth.f kj3 y367).bind fun t379 => ((tree_Depth.f kj3 l0).bind fun t380 => (some (t379 == t380)))))))) else (none)) else (none))) else (none)) = some r := H
                have A20 := Aside0.mk A200
                clear A200
                by_cases c21 : t351 = true
                · subst c21
                  have H1 : (if t360 = true then (none) else (if t371 = true then (if t370 = (l0.length : Int) then ((tree_May.f kj3 y367).bind fun t372 => (if t372 = true then (none) else ((tree_May.f kj3 (l0.take ((ji14) : Int).toNat)).bind fun t378 => (if t378 = true then (none) else ((tree_Depth.f kj3 y367).bind fun t379 => ((tree_Depth.f kj3 l0).bind fun t380 => (some (t379 == t380)))))))) else (none)) else (none))) = some r := by rw [if_pos rfl] at H; exact H
                  clear H
                  have H := H1
                  clear H1
                  by_cases c22 : t360 = true
                  · subst c22
                    have H1 : (none) = some r := by rw [if_pos rfl] at H; exact H
                    clear H
                    have H := H1
                    clear H1
                    exact absurd H (by simp)
                  · replace c22 := Bool.eq_false_iff.mpr c22
                    subst c22
                    have H1 : (if t371 = true then (if t370 = (l0.length : Int) then ((tree_May.f kj3 y367).bind fun t372 => (if t372 = true then (none) else ((tree_May.f kj3 (l0.take ((ji14) : Int).toNat)).bind fun t378 => (if t378 = true then (none) else ((tree_Depth.f kj3 y367).bind fun t379 => ((tree_Depth.f kj3 l0).bind fun t380 => (some (t379 == t380)))))))) else (none)) else (none)) = some r := by rw [if_neg (show ¬ (false = true) by decide)] at H; exact H
                    clear H
                    have H := H1
                    clear H1
                    by_cases c23 : t371 = true
                    · subst c23
                      have H1 : (if t370 = (l0.length : Int) then ((tree_May.f kj3 y367).bind fun t372 => (if t372 = true then (none) else ((tree_May.f kj3 (l0.take ((ji14) : Int).toNat)).bind fun t378 => (if t378 = true then (none) else ((tree_Depth.f kj3 y367).bind fun t379 => ((tree_Depth.f kj3 l0).bind fun t380 => (some (t379 == t380)))))))) else (none)) = some r := by rw [if_pos rfl] at H; exact H
                      clear H
                      have H := H1
                      clear H1
                      by_cases c24 : t370 = (l0.length : Int)
                      · rw [if_pos c24] at H
                        have c24b0 : (t370 == (l0.length : Int)) = true := beq_iff_eq.mpr c24
                        have c24b1 : (t370 != (l0.length : Int)) = false := bne_eq_false_iff_eq.mpr c24
                        clear c24
                        replace H := Option.bind_eq_some_iff.mp H
                        obtain ⟨t372, A250, H⟩ := H
                        replace H : (if t372 = true then (none) else ((tree_May.f kj3 (l0.take ((ji14) : Int).toNat)).bind fun t378 => (if t378 = true then (none) else ((tree_Depth.f kj3 y367).bind fun t379 => ((tree_Depth.f kj3 l0).bind fun t380 => (some (t379 == t380))))))) = some r := H
                        have A25 := Aside0.mk A250
                        clear A250
                        by_cases c26 : t372 = true
                        · subst c26
                          have H1 : (none) = some r := by rw [if_pos rfl] at H; exact H
                          clear H
                          have H := H1
                          clear H1
                          exact absurd H (by simp)
                        · replace c26 := Bool.eq_false_iff.mpr c26
                          subst c26
                          have H1 : ((tree_May.f kj3 (l0.take ((ji14) : Int).toNat)).bind fun t378 => (if t378 = true then (none) else ((tree_Depth.f kj3 y367).bind fun t379 => ((tree_Depth.f kj3 l0).bind fun t380 => (some (t379 == t380)))))) = some r := by rw [if_neg (show ¬ (false = true) by decide)] at H; exact H
                          clear H
                          have H := H1
                          clear H1
                          have c27b0 := eq_true (of_decide_eq_true (by first | (with_reducible assumption) | assumption) : 0 ≤ (ji14))
                          have c28b0 := eq_true (of_decide_eq_true (by first | (with_reducible assumption) | assumption) : (ji14) ≤ (l0.length : Int))
                          obtain ⟨y373, hy373⟩ : ∃ y_ : List (S25), y_ = (l0.take ((ji14) : Int).toNat) := ⟨_, rfl⟩
                          replace H : ((tree_May.f kj3 y373).bind fun t378 => (if t378 = true then (none) else ((tree_Depth.f kj3 y367).bind fun t379 => ((tree_Depth.f kj3 l0).bind fun t380 => (some (t379 == t380)))))) = some r := by first | (rw [hy373]; with_reducible exact H) | (have H2_ := (Option.bind_some _ _).symm.trans H; rw [hy373]; with_reducible exact H2_) | (have H2_ := (Option.bind_some _ _).symm.trans H; with_reducible exact H2_) | with_reducible exact H | (rw [hy373]; exact H) | exact H
                          have Ny373 := Aside0.mk hy373
                          clear hy373
                          replace H := Option.bind_eq_some_iff.mp H
                          obtain ⟨t378, A290, H⟩ := H
                          replace H : (if t378 = true then (none) else ((tree_Depth.f kj3 y367).bind fun t379 => ((tree_Depth.f kj3 l0).bind fun t380 => (some (t379 == t380))))) = some r := H
                          have A29 := Aside0.mk A290
                          clear A290
                          by_cases c30 : t378 = true
                          · subst c30
                            have H1 : (none) = some r := by rw [if_pos rfl] at H; exact H
                            clear H
                            have H := H1
                            clear H1
                            exact absurd H (by simp)
                          · replace c30 := Bool.eq_false_iff.mpr c30
                            subst c30
                            have H1 : ((tree_Depth.f kj3 y367).bind fun t379 => ((tree_Depth.f kj3 l0).bind fun t380 => (some (t379 == t380)))) = some r := by rw [if_neg (show ¬ (false = true) by decide)] at H; exact H
                            clear H
                            have H := H1
                            clear H1
                            replace H := Option.bind_eq_some_iff.mp H
                            obtain ⟨t379, A310, H⟩ := H
                            replace H : ((tree_Depth.f kj3 l0).bind fun t380 => (some (t379 == t380))) = some r := H
                            have A31 := Aside0.mk A310
                            clear A310
                            replace H := Option.bind_eq_some_iff.mp H
                            obtain ⟨t380, A320, H⟩ := H
                            replace H : (some (t379 == t380)) = some r := H
                            have A32 := Aside0.mk A320
                            clear A320
                            obtain rfl := Option.some.inj H
                            have q33 : ((ji14) : Int) ≤ ((l0.length : Int) : Int) := of_decide_eq_true (by first | (with_reducible assumption) | assumption)
                            obtain ⟨i033, hi033, _, hsz33, _⟩ := info_parts info25
                            have hroom33 : l0.length ≤ c0 := (Kd.V_reads' HO_0.out).2.1
                            have hC33 : Kd.F k25 _ _ A0 l0.length l0 := (Kd.V_at (base := w.heap.size) HO_0.out).2.2
                            have hcut33 := cut_to (P := Try.prog) 22 25 .i64 Try.underlying22 hi033 A0 l0.length c0 (ji14) (of_decide_eq_true (by first | (with_reducible assumption) | assumption)) q33 hroom33
                            have hr33 := Kd.F_take (m := ((ji14) : Int).toNat) hC33 (by omega)
                            have hy33 : y354.length = ((ji14) : Int).toNat := (by rw [Ny354.out, List.length_take]; omega)
                            rw [← Ny354.out] at hr33
                            rw [← hy33] at hcut33
                            have HO358 := Aside0.mk (show Kd.V k25 25 _ w.heap.size _ (.slice A0 y354.length c0) y354 from Kd.V_mk (by omega) hr33)
                            have HC358 := Aside0.mk (show y354.length ≤ c0 from by omega)
                            clear hr33 hC33 hroom33 hi033 hsz33
                            have KY33 := Aside0.mk hy33
                            clear hy33
                            replace q33 := eq_true q33
                            go_wp2_with (first | ((with_reducible refine gate_callee (f := 19) rfl ?_); refine goesL_ (some 32) rfl rfl Try.func19 (by kernel_rfl) rfl #[.slice A0 y354.length c0, .int .i64 0] rfl (by (try simp only [List.map_toArray, List.map_cons, List.map_nil]); first | done | rfl | (simp only [List.length_drop, List.length_take]; rfl)) ?_; (with_reducible refine (tree_End.calls kj3 _ _ y354 0 t359 false _ ?side1 ?side2 A17.out).mono ?_); (case side1 => repeat (first | exact (Kd.V_reads' HO358.out).2.2 | (with_reducible refine Kd.C_alloc ?_ _) | (with_reducible refine Kd.C_drewN ?_ _) | (with_reducible refine Kd.C_drew ?_))); (case side2 => exact (Kd.V_reads' HO358.out).2.1); rintro e w34 ⟨rfl, hb⟩; refine ⟨_, rfl, ?_⟩; have n0_ := Aside0.mk (Kd.V_below (by (with_reducible repeat (first | apply Kd.V_alloc | apply Kd.V_drewN | apply Kd.V_drew)); exact HO_0.out) hb); have n1_ := Aside0.mk (Kd.V_below (by (with_reducible repeat (first | apply Kd.V_alloc | apply Kd.V_drewN | apply Kd.V_drew)); exact HO_351004.out) hb); have n2_ := Aside0.mk (Kd.V_below (by (with_reducible repeat (first | apply Kd.V_alloc | apply Kd.V_drewN | apply Kd.V_drew)); exact HO358.out) hb); have n3_ := Aside0.mk (blk_below (g := gb350) (o := .cells #[.int .i64 a1_0, .string a1_1, .string a1_2, .string a1_3, .slice A1_4 l1_4.length c1_4] 25 (0, 0)) (by (with_reducible repeat (first | refine blk_drewN ?_ _ | refine blk_drew ?_ | refine blk_alloc ?_ _)); exact BK350.out) hb); have n4_ := Aside0.mk (below_step (by repeat (first | (with_reducible first | exact HB.out | apply below_alloc | apply pw_below_drewN | apply below_drew1 | refine below_set ?_ GE350.out) | exact HB.out)) hb); clear HO_0; clear HO_351004; clear HO358; clear BK350; clear HB; have HO_0 := n0_; have HO_351004 := n1_; have HO358 := n2_; have BK350 := n3_; have HB := n4_; clear n0_ n1_ n2_ n3_ n4_; (try clear hb); (try clear hb2); (try clear hk); (try clear hi)) | ((with_reducible refine gate_dst (N := 35) rfl ?_); (try (refine gate_guard (by rfl) ?_; dsimp only)); refine Kd.N_lit k25 _ 25 ?hg (N' := 35) ?hd (xs := ([] : List (S25))) (inner := []) (ok := (fun k_ => ((P0_ k_ ∨ P1_4_ k_) ∨ w.heap.size ≤ k_) ∧ k_ ≠ gb350)) (okp := (fun k_ => ((P0_ k_ ∨ P1_4_ k_) ∨ w.heap.size ≤ k_) ∧ k_ ≠ gb350)) ?hr ?hp (fun _ hk => hk) ((show ∀ k_, w34.heap.size ≤ k_ → (fun k_ => ((P0_ k_ ∨ P1_4_ k_) ∨ w.heap.size ≤ k_) ∧ k_ ≠ gb350) k_ from fun k_ hk => ⟨(.inr (Nat.le_trans (below_size (by repeat (first | (with_reducible first | exact HB.out | apply below_alloc | apply pw_below_drewN | apply below_drew1 | refine below_set ?_ GE350.out) | exact HB.out))) hk)), Kd.freshB (g := gb350) (o := .cells #[.int .i64 a1_0, .string a1_1, .string a1_2, .string a1_3, .slice A1_4 l1_4.length c1_4] 25 (0, 0)) (by (with_reducible repeat (first | refine blk_drewN ?_ _ | refine blk_drew ?_ | refine blk_alloc ?_ _)); exact BK350.out) k_ hk⟩) _ (Nat.le_refl _)) (Below.refl _ _) (Nat.le_refl _) (by simp) ?_; (case hd => rfl); (case hg => rfl); (case hr => first | (go_simp; done) | (go_simp; rfl)); (case hp => exact (Reps.none _ _)); intro v362 w35 ho36 hb hg_ hnew_; clear hg_ hnew_; (first | rw [← Ny361.out] at ho36 | (simp only [Int.reduceToNat] at ho36; rw [← Ny361.out] at ho36)); have n0_ := Aside0.mk (Kd.V_elder' (by (with_reducible repeat (first | apply Kd.V_alloc | apply Kd.V_drewN | apply Kd.V_drew)); exact HO_0.out) (Kd.N_base ho36) hb); have n1_ := Aside0.mk (Kd.V_elder' (by (with_reducible repeat (first | apply Kd.V_alloc | apply Kd.V_drewN | apply Kd.V_drew)); exact HO_351004.out) (Kd.N_base ho36) hb); have n2_ := Aside0.mk (Kd.V_elder' (by (with_reducible repeat (first | apply Kd.V_alloc | apply Kd.V_drewN | apply Kd.V_drew)); exact HO358.out) (Kd.N_base ho36) hb); have n3_ := Aside0.mk (Kd.N_lower ho36 (below_size (by repeat (first | (with_reducible first | exact HB.out | apply below_alloc | apply pw_below_drewN | apply below_drew1 | refine below_set ?_ GE350.out) | exact HB.out)))); have n4_ := Aside0.mk (blk_below (g := gb350) (o := .cells #[.int .i64 a1_0, .string a1_1, .string a1_2, .string a1_3, .slice A1_4 l1_4.length c1_4] 25 (0, 0)) (by (with_reducible repeat (first | refine blk_drewN ?_ _ | refine blk_drew ?_ | refine blk_alloc ?_ _)); exact BK350.out) hb); have n5_ := Aside0.mk (below_step (by repeat (first | (with_reducible first | exact HB.out | apply below_alloc | apply pw_below_drewN | apply below_drew1 | refine below_set ?_ GE350.out) | exact HB.out)) hb); clear HO_0; clear HO_351004; clear HO358; clear BK350; clear HB; have HO_0 := n0_; have HO_351004 := n1_; have HO358 := n2_; have HO363 := n3_; have BK350 := n4_; have HB := n5_; clear n0_ n1_ n2_ n3_ n4_ n5_; clear hb ho36) | ((with_reducible refine gate_builtin (b := .append) (xs := #[.tmp 35, .tmp 36]) rfl ?_); (try (refine gate_guard (by rfl) ?_; dsimp only)); at_builtin; refine Kd.N_append_rows k25 (w0 := w) w.heap.size rfl (.tmp 35) (.tmp 36) 22 25 (.agg #[(.int .i64 0), (.string ⟨#[]⟩), (.string ⟨#[]⟩), (.string ⟨#[]⟩), (.slice none 0 0)]) 80 rfl Try.underlying22 info25 rfl (by decide) (by omega) v362 y361 l0 _ _ _ (fun k_ => ((P0_ k_ ∨ P1_4_ k_) ∨ w.heap.size ≤ k_) ∧ k_ ≠ gb350) (fun k_ => ((fun k_ => ((P0_ k_ ∨ P1_4_ k_) ∨ w.heap.size ≤ k_) ∧ k_ ≠ gb350)) k_ ∧ some k_ ≠ (v362 : Value).ownBlock) rfl rfl ?aO ?aR (fun _ hk => hk) ?aF ?aB ?aS ?aL ?_; (case aR => exact (by skip; exact Kd.V_F (Kd.V_mono (ok' := (fun k_ => ((fun k_ => ((P0_ k_ ∨ P1_4_ k_) ∨ w.heap.size ≤ k_) ∧ k_ ≠ gb350)) k_ ∧ some k_ ≠ (v362 : Value).ownBlock)) (HO_0.out) (fun k_ hk => ⟨⟨hk.1.1, hk.1.2⟩, hk.2⟩)))); (case aB => exact (by repeat (first | (with_reducible first | exact HB.out | apply below_alloc | apply pw_below_drewN | apply below_drew1 | refine below_set ?_ GE350.out) | exact HB.out))); (case aF => exact (fun k_ hk => ⟨(.inr (Nat.le_trans (below_size (by repeat (first | (with_reducible first | exact HB.out | apply below_alloc | apply pw_below_drewN | apply below_drew1 | refine below_set ?_ GE350.out) | exact HB.out))) hk)), Kd.freshB (g := gb350) (o := .cells #[.int .i64 a1_0, .string a1_1, .string a1_2, .string a1_3, .slice A1_4 l1_4.length c1_4] 25 (0, 0)) (by (with_reducible repeat (first | refine blk_drewN ?_ _ | refine blk_drew ?_ | refine blk_alloc ?_ _)); exact BK350.out) k_ hk⟩)); (case aO => exact (by (with_reducible repeat (first | apply Kd.N_alloc | apply Kd.N_drewN | apply Kd.N_drew)); exact HO363.out)); (case aS => exact (below_size (by repeat (first | (with_reducible first | exact HB.out | apply below_alloc | apply pw_below_drewN | apply below_drew1 | refine below_set ?_ GE350.out) | exact HB.out)))); (case aL => have := LMc18.out; omega); intro v365 w37 ho hb hg hat; rw [← Ny364.out] at ho; have n0_ := Aside0.mk (Kd.V_afterv (ok := (fun k_ => ((P0_ k_ ∨ P1_4_ k_) ∨ w.heap.size ≤ k_) ∧ k_ ≠ gb350)) (by (with_reducible repeat (first | apply Kd.V_alloc | apply Kd.V_drewN | apply Kd.V_drew)); exact HO_0.out) hg hat); have n1_ := Aside0.mk (Kd.V_afterv (ok := (fun k_ => ((P0_ k_ ∨ P1_4_ k_) ∨ w.heap.size ≤ k_) ∧ k_ ≠ gb350)) (by (with_reducible repeat (first | apply Kd.V_alloc | apply Kd.V_drewN | apply Kd.V_drew)); exact HO_351004.out) hg hat); have n2_ := Aside0.mk (blk_grown (g := gb350) (o := .cells #[.int .i64 a1_0, .string a1_1, .string a1_2, .string a1_3, .slice A1_4 l1_4.length c1_4] 25 (0, 0)) (by (with_reducible repeat (first | refine blk_drewN ?_ _ | refine blk_drew ?_ | refine blk_alloc ?_ _)); exact BK350.out) hg (Kd.N_away HO363.out (fun _ hk => hk.2))); have n3_ := Aside0.mk (Kd.V_afterv (ok := (fun k_ => ((P0_ k_ ∨ P1_4_ k_) ∨ w.heap.size ≤ k_) ∧ k_ ≠ gb350)) (by (with_reducible repeat (first | apply Kd.V_alloc | apply Kd.V_drewN | apply Kd.V_drew)); exact HO358.out) hg hat); have n4_ := Aside0.mk (hb); have n5_ := Aside0.mk (ho); clear HO_0; clear HO_351004; clear BK350; clear HO358; clear HB; clear HO363; have HO_0 := n0_; have HO_351004 := n1_; have BK350 := n2_; have HO358 := n3_; have HB := n4_; have HO366 := n5_; clear n0_ n1_ n2_ n3_ n4_ n5_; clear ho hb hg hat; have hcz38_0 : w37.cell? ⟨gb350, 0, none⟩ = some (.int .i64 a1_0) := (blk_cell BK350.out 0).trans rfl; have hcz38_1 : w37.cell? ⟨gb350, 1, none⟩ = some (.string a1_1) := (blk_cell BK350.out 1).trans rfl; have hcz38_2 : w37.cell? ⟨gb350, 2, none⟩ = some (.string a1_2) := (blk_cell BK350.out 2).trans rfl; have hcz38_3 : w37.cell? ⟨gb350, 3, none⟩ = some (.string a1_3) := (blk_cell BK350.out 3).trans rfl; have hcz38_4 : w37.cell? ⟨gb350, 4, none⟩ = some (.slice A1_4 l1_4.length c1_4) := (blk_cell BK350.out 4).trans rfl; have hfz38_0 := blk_frozen BK350.out 0; have hfz38_1 := blk_frozen BK350.out 1; have hfz38_2 := blk_frozen BK350.out 2; have hfz38_3 := blk_frozen BK350.out 3; have hfz38_4 := blk_frozen BK350.out 4) | ((with_reducible refine gate_builtin (b := .append) (xs := #[.tmp 38, .tmp 40]) rfl ?_); (try (refine gate_guard (by rfl) ?_; dsimp only)); at_builtin; refine Kd.N_append k25 (w0 := w) w.heap.size rfl (.tmp 38) (.tmp 40) 22 25 (.agg #[(.int .i64 0), (.string ⟨#[]⟩), (.string ⟨#[]⟩), (.string ⟨#[]⟩), (.slice none 0 0)]) 80 rfl Try.underlying22 info25 rfl (by decide) (by omega) v365 y364 (⟨a1_0, a1_1, a1_2, a1_3, l1_4⟩ : S25) [.int .i64 a1_0, .string a1_1, .string a1_2, .string a1_3, .slice A1_4 l1_4.length c1_4] (fun k_ => ((P0_ k_ ∨ P1_4_ k_) ∨ w.heap.size ≤ k_) ∧ k_ ≠ gb350) (fun k_ => ((fun k_ => ((P0_ k_ ∨ P1_4_ k_) ∨ w.heap.size ≤ k_) ∧ k_ ≠ gb350)) k_ ∧ some k_ ≠ (v365 : Value).ownBlock) rfl rfl ?aP (fun _ hk => hk) ?aF ?aO ?aB ?aS ?aL ?_; (case aP => exact (k25_mkF _ _ (⟨a1_0, a1_1, a1_2, a1_3, l1_4⟩ : S25) (Kd.V_reads' (Kd.V_mono (ok' := (fun k_ => ((fun k_ => ((P0_ k_ ∨ P1_4_ k_) ∨ w.heap.size ≤ k_) ∧ k_ ≠ gb350)) k_ ∧ some k_ ≠ (v365 : Value).ownBlock)) (HO_351004.out) (fun k_ hk => ⟨⟨hk.1.1, hk.1.2⟩, hk.2⟩))).2.1 (Kd.V_F (Kd.V_mono (ok' := (fun k_ => ((fun k_ => ((P0_ k_ ∨ P1_4_ k_) ∨ w.heap.size ≤ k_) ∧ k_ ≠ gb350)) k_ ∧ some k_ ≠ (v365 : Value).ownBlock)) (HO_351004.out) (fun k_ hk => ⟨⟨hk.1.1, hk.1.2⟩, hk.2⟩))))); (case aB => exact (by repeat (first | (with_reducible first | exact HB.out | apply below_alloc | apply pw_below_drewN | apply below_drew1 | refine below_set ?_ GE350.out) | exact HB.out))); (case aF => exact (fun k_ hk => ⟨(.inr (Nat.le_trans (below_size (by repeat (first | (with_reducible first | exact HB.out | apply below_alloc | apply pw_below_drewN | apply below_drew1 | refine below_set ?_ GE350.out) | exact HB.out))) hk)), Kd.freshB (g := gb350) (o := .cells #[.int .i64 a1_0, .string a1_1, .string a1_2, .string a1_3, .slice A1_4 l1_4.length c1_4] 25 (0, 0)) (by (with_reducible repeat (first | refine blk_drewN ?_ _ | refine blk_drew ?_ | refine blk_alloc ?_ _)); exact BK350.out) k_ hk⟩)); (case aO => exact (by (with_reducible repeat (first | apply Kd.N_alloc | apply Kd.N_drewN | apply Kd.N_drew)); exact HO366.out)); (case aS => exact (below_size (by repeat (first | (with_reducible first | exact HB.out | apply below_alloc | apply pw_below_drewN | apply below_drew1 | refine below_set ?_ GE350.out) | exact HB.out)))); (case aL => have := LMc19.out; omega); intro v368 w39 ho hb hg hat; rw [← Ny367.out] at ho; have n0_ := Aside0.mk (Kd.V_afterv (ok := (fun k_ => ((P0_ k_ ∨ P1_4_ k_) ∨ w.heap.size ≤ k_) ∧ k_ ≠ gb350)) (by (with_reducible repeat (first | apply Kd.V_alloc | apply Kd.V_drewN | apply Kd.V_drew)); exact HO_0.out) hg hat); have n1_ := Aside0.mk (Kd.V_afterv (ok := (fun k_ => ((P0_ k_ ∨ P1_4_ k_) ∨ w.heap.size ≤ k_) ∧ k_ ≠ gb350)) (by (with_reducible repeat (first | apply Kd.V_alloc | apply Kd.V_drewN | apply Kd.V_drew)); exact HO_351004.out) hg hat); have n2_ := Aside0.mk (blk_grown (g := gb350) (o := .cells #[.int .i64 a1_0, .string a1_1, .string a1_2, .string a1_3, .slice A1_4 l1_4.length c1_4] 25 (0, 0)) (by (with_reducible repeat (first | refine blk_drewN ?_ _ | refine blk_drew ?_ | refine blk_alloc ?_ _)); exact BK350.out) hg (Kd.N_away HO366.out (fun _ hk => hk.2))); have n3_ := Aside0.mk (Kd.V_afterv (ok := (fun k_ => ((P0_ k_ ∨ P1_4_ k_) ∨ w.heap.size ≤ k_) ∧ k_ ≠ gb350)) (by (with_reducible repeat (first | apply Kd.V_alloc | apply Kd.V_drewN | apply Kd.V_drew)); exact HO358.out) hg hat); have n4_ := Aside0.mk (hb); have n5_ := Aside0.mk (ho); clear HO_0; clear HO_351004; clear BK350; clear HO358; clear HB; clear HO366; have HO_0 := n0_; have HO_351004 := n1_; have BK350 := n2_; have HO358 := n3_; have HB := n4_; have HO369 := n5_; clear n0_ n1_ n2_ n3_ n4_ n5_; clear ho hb hg hat; obtain ⟨Ao40, co40, eo40⟩ := Kd.N_slice HO369.out; subst eo40) | ((with_reducible refine gate_callee (f := 19) rfl ?_); refine goesL_ (some 44) rfl rfl Try.func19 (by kernel_rfl) rfl #[.slice Ao40 y367.length co40, .int .i64 0] rfl (by (try simp only [List.map_toArray, List.map_cons, List.map_nil]); first | done | rfl | (simp only [List.length_drop, List.length_take]; rfl)) ?_; (with_reducible refine (tree_End.calls kj3 _ _ y367 0 t370 true _ ?side1 ?side2 A20.out).mono ?_); (case side1 => repeat (first | exact (Kd.N_reads' HO369.out).2.2 | (with_reducible refine Kd.C_alloc ?_ _) | (with_reducible refine Kd.C_drewN ?_ _) | (with_reducible refine Kd.C_drew ?_))); (case side2 => exact (Kd.N_reads' HO369.out).2.1); rintro e w41 ⟨rfl, hb⟩; refine ⟨_, rfl, ?_⟩; have n0_ := Aside0.mk (Kd.V_below (by (with_reducible repeat (first | apply Kd.V_alloc | apply Kd.V_drewN | apply Kd.V_drew)); exact HO_0.out) hb); have n1_ := Aside0.mk (Kd.V_below (by (with_reducible repeat (first | apply Kd.V_alloc | apply Kd.V_drewN | apply Kd.V_drew)); exact HO_351004.out) hb); have n2_ := Aside0.mk (Kd.V_below (by (with_reducible repeat (first | apply Kd.V_alloc | apply Kd.V_drewN | apply Kd.V_drew)); exact HO358.out) hb); have n3_ := Aside0.mk (Kd.N_below (by (with_reducible repeat (first | apply Kd.N_alloc | apply Kd.N_drewN | apply Kd.N_drew)); exact HO369.out) hb); have n4_ := Aside0.mk (blk_below (g := gb350) (o := .cells #[.int .i64 a1_0, .string a1_1, .string a1_2, .string a1_3, .slice A1_4 l1_4.length c1_4] 25 (0, 0)) (by (with_reducible repeat (first | refine blk_drewN ?_ _ | refine blk_drew ?_ | refine blk_alloc ?_ _)); exact BK350.out) hb); have n5_ := Aside0.mk (below_step (by repeat (first | (with_reducible first | exact HB.out | apply below_alloc | apply pw_below_drewN | apply below_drew1 | refine below_set ?_ GE350.out) | exact HB.out)) hb); clear HO_0; clear HO_351004; clear HO358; clear HO369; clear BK350; clear HB; have HO_0 := n0_; have HO_351004 := n1_; have HO358 := n2_; have HO369 := n3_; have BK350 := n4_; have HB := n5_; clear n0_ n1_ n2_ n3_ n4_ n5_; (try clear hb); (try clear hb2); (try clear hk); (try clear hi)) | (go_at_call 28; (with_reducible refine (tree_May.calls kj3 _ _ y367 false _ ?side1 ?side2 A25.out).mono ?_); (case side1 => repeat (first | exact (Kd.N_reads' HO369.out).2.2 | (with_reducible refine Kd.C_alloc ?_ _) | (with_reducible refine Kd.C_drewN ?_ _) | (with_reducible refine Kd.C_drew ?_))); (case side2 => exact (Kd.N_reads' HO369.out).2.1); rintro e w42 ⟨rfl, hb⟩; have n0_ := Aside0.mk (Kd.V_below (by (with_reducible repeat (first | apply Kd.V_alloc | apply Kd.V_drewN | apply Kd.V_drew)); exact HO_0.out) hb); have n1_ := Aside0.mk (Kd.V_below (by (with_reducible repeat (first | apply Kd.V_alloc | apply Kd.V_drewN | apply Kd.V_drew)); exact HO_351004.out) hb); have n2_ := Aside0.mk (Kd.V_below (by (with_reducible repeat (first | apply Kd.V_alloc | apply Kd.V_drewN | apply Kd.V_drew)); exact HO358.out) hb); have n3_ := Aside0.mk (Kd.N_below (by (with_reducible repeat (first | apply Kd.N_alloc | apply Kd.N_drewN | apply Kd.N_drew)); exact HO369.out) hb); have n4_ := Aside0.mk (blk_below (g := gb350) (o := .cells #[.int .i64 a1_0, .string a1_1, .string a1_2, .string a1_3, .slice A1_4 l1_4.length c1_4] 25 (0, 0)) (by (with_reducible repeat (first | refine blk_drewN ?_ _ | refine blk_drew ?_ | refine blk_alloc ?_ _)); exact BK350.out) hb); have n5_ := Aside0.mk (below_step (by repeat (first | (with_reducible first | exact HB.out | apply below_alloc | apply pw_below_drewN | apply below_drew1 | refine below_set ?_ GE350.out) | exact HB.out)) hb); clear HO_0; clear HO_351004; clear HO358; clear HO369; clear BK350; clear HB; have HO_0 := n0_; have HO_351004 := n1_; have HO358 := n2_; have HO369 := n3_; have BK350 := n4_; have HB := n5_; clear n0_ n1_ n2_ n3_ n4_ n5_; (try clear hb); (try clear hb2); (try clear hk); (try clear hi); have q43 : ((ji14) : Int) ≤ ((l0.length : Int) : Int) := of_decide_eq_true (by first | (with_reducible assumption) | assumption); obtain ⟨i043, hi043, _, hsz43, _⟩ := info_parts info25; have hroom43 : l0.length ≤ c0 := (Kd.V_reads' HO_0.out).2.1; have hC43 : Kd.F k25 _ _ A0 l0.length l0 := (Kd.V_at (base := w.heap.size) HO_0.out).2.2; (try clear hcut33); have hcut43 := cut_to (P := Try.prog) 22 25 .i64 Try.underlying22 hi043 A0 l0.length c0 (ji14) (of_decide_eq_true (by first | (with_reducible assumption) | assumption)) q43 hroom43; have hr43 := Kd.F_take (m := ((ji14) : Int).toNat) hC43 (by omega); have hy43 : y373.length = ((ji14) : Int).toNat := (by rw [Ny373.out, List.length_take]; omega); rw [← Ny373.out] at hr43; rw [← hy43] at hcut43; have HO377 := Aside0.mk (show Kd.V k25 25 _ w.heap.size _ (.slice A0 y373.length c0) y373 from Kd.V_mk (by omega) hr43); have HC377 := Aside0.mk (show y373.length ≤ c0 from by omega); clear hr43 hC43 hroom43 hi043 hsz43; have KY43 := Aside0.mk hy43; clear hy43; replace q43 := eq_true q43) | (go_at_call 28; (with_reducible refine (tree_May.calls kj3 _ _ y373 false _ ?side1 ?side2 A29.out).mono ?_); (case side1 => repeat (first | exact (Kd.V_reads' HO377.out).2.2 | (with_reducible refine Kd.C_alloc ?_ _) | (with_reducible refine Kd.C_drewN ?_ _) | (with_reducible refine Kd.C_drew ?_))); (case side2 => exact (Kd.V_reads' HO377.out).2.1); rintro e w44 ⟨rfl, hb⟩; have n0_ := Aside0.mk (Kd.V_below (by (with_reducible repeat (first | apply Kd.V_alloc | apply Kd.V_drewN | apply Kd.V_drew)); exact HO_0.out) hb); have n1_ := Aside0.mk (Kd.V_below (by (with_reducible repeat (first | apply Kd.V_alloc | apply Kd.V_drewN | apply Kd.V_drew)); exact HO_351004.out) hb); have n2_ := Aside0.mk (Kd.V_below (by (with_reducible repeat (first | apply Kd.V_alloc | apply Kd.V_drewN | apply Kd.V_drew)); exact HO358.out) hb); have n3_ := Aside0.mk (Kd.N_below (by (with_reducible repeat (first | apply Kd.N_alloc | apply Kd.N_drewN | apply Kd.N_drew)); exact HO369.out) hb); have n4_ := Aside0.mk (Kd.V_below (by (with_reducible repeat (first | apply Kd.V_alloc | apply Kd.V_drewN | apply Kd.V_drew)); exact HO377.out) hb); have n5_ := Aside0.mk (blk_below (g := gb350) (o := .cells #[.int .i64 a1_0, .string a1_1, .string a1_2, .string a1_3, .slice A1_4 l1_4.length c1_4] 25 (0, 0)) (by (with_reducible repeat (first | refine blk_drewN ?_ _ | refine blk_drew ?_ | refine blk_alloc ?_ _)); exact BK350.out) hb); have n6_ := Aside0.mk (below_step (by repeat (first | (with_reducible first | exact HB.out | apply below_alloc | apply pw_below_drewN | apply below_drew1 | refine below_set ?_ GE350.out) | exact HB.out)) hb); clear HO_0; clear HO_351004; clear HO358; clear HO369; clear HO377; clear BK350; clear HB; have HO_0 := n0_; have HO_351004 := n1_; have HO358 := n2_; have HO369 := n3_; have HO377 := n4_; have BK350 := n5_; have HB := n6_; clear n0_ n1_ n2_ n3_ n4_ n5_ n6_; (try clear hb); (try clear hb2); (try clear hk); (try clear hi)) | (go_at_call 26; (with_reducible refine (tree_Depth.calls kj3 _ _ y367 t379 _ ?side1 ?side2 A31.out).mono ?_); (case side1 => repeat (first | exact (Kd.N_reads' HO369.out).2.2 | (with_reducible refine Kd.C_alloc ?_ _) | (with_reducible refine Kd.C_drewN ?_ _) | (with_reducible refine Kd.C_drew ?_))); (case side2 => exact (Kd.N_reads' HO369.out).2.1); rintro e w45 ⟨rfl, hb⟩; have n0_ := Aside0.mk (Kd.V_below (by (with_reducible repeat (first | apply Kd.V_alloc | apply Kd.V_drewN | apply Kd.V_drew)); exact HO_0.out) hb); have n1_ := Aside0.mk (Kd.V_below (by (with_reducible repeat (first | apply Kd.V_alloc | apply Kd.V_drewN | apply Kd.V_drew)); exact HO_351004.out) hb); have n2_ := Aside0.mk (Kd.V_below (by (with_reducible repeat (first | apply Kd.V_alloc | apply Kd.V_drewN | apply Kd.V_drew)); exact HO358.out) hb); have n3_ := Aside0.mk (Kd.N_below (by (with_reducible repeat (first | apply Kd.N_alloc | apply Kd.N_drewN | apply Kd.N_drew)); exact HO369.out) hb); have n4_ := Aside0.mk (Kd.V_below (by (with_reducible repeat (first | apply Kd.V_alloc | apply Kd.V_drewN | apply Kd.V_drew)); exact HO377.out) hb); have n5_ := Aside0.mk (blk_below (g := gb350) (o := .cells #[.int .i64 a1_0, .string a1_1, .string a1_2, .string a1_3, .slice A1_4 l1_4.length c1_4] 25 (0, 0)) (by (with_reducible repeat (first | refine blk_drewN ?_ _ | refine blk_drew ?_ | refine blk_alloc ?_ _)); exact BK350.out) hb); have n6_ := Aside0.mk (below_step (by repeat (first | (with_reducible first | exact HB.out | apply below_alloc | apply pw_below_drewN | apply below_drew1 | refine below_set ?_ GE350.out) | exact HB.out)) hb); clear HO_0; clear HO_351004; clear HO358; clear HO369; clear HO377; clear BK350; clear HB; have HO_0 := n0_; have HO_351004 := n1_; have HO358 := n2_; have HO369 := n3_; have HO377 := n4_; have BK350 := n5_; have HB := n6_; clear n0_ n1_ n2_ n3_ n4_ n5_ n6_; (try clear hb); (try clear hb2); (try clear hk); (try clear hi)) | (go_at_call 26; (with_reducible refine (tree_Depth.calls kj3 _ _ l0 t380 _ ?side1 ?side2 A32.out).mono ?_); (case side1 => repeat (first | exact (Kd.V_reads' HO_0.out).2.2 | (with_reducible refine Kd.C_alloc ?_ _) | (with_reducible refine Kd.C_drewN ?_ _) | (with_reducible refine Kd.C_drew ?_))); (case side2 => exact (Kd.V_reads' HO_0.out).2.1); rintro e w46 ⟨rfl, hb⟩; have n0_ := Aside0.mk (Kd.V_below (by (with_reducible repeat (first | apply Kd.V_alloc | apply Kd.V_drewN | apply Kd.V_drew)); exact HO_0.out) hb); have n1_ := Aside0.mk (Kd.V_below (by (with_reducible repeat (first | apply Kd.V_alloc | apply Kd.V_drewN | apply Kd.V_drew)); exact HO_351004.out) hb); have n2_ := Aside0.mk (Kd.V_below (by (with_reducible repeat (first | apply Kd.V_alloc | apply Kd.V_drewN | apply Kd.V_drew)); exact HO358.out) hb); have n3_ := Aside0.mk (Kd.N_below (by (with_reducible repeat (first | apply Kd.N_alloc | apply Kd.N_drewN | apply Kd.N_drew)); exact HO369.out) hb); have n4_ := Aside0.mk (Kd.V_below (by (with_reducible repeat (first | apply Kd.V_alloc | apply Kd.V_drewN | apply Kd.V_drew)); exact HO377.out) hb); have n5_ := Aside0.mk (blk_below (g := gb350) (o := .cells #[.int .i64 a1_0, .string a1_1, .string a1_2, .string a1_3, .slice A1_4 l1_4.length c1_4] 25 (0, 0)) (by (with_reducible repeat (first | refine blk_drewN ?_ _ | refine blk_drew ?_ | refine blk_alloc ?_ _)); exact BK350.out) hb); have n6_ := Aside0.mk (below_step (by repeat (first | (with_reducible first | exact HB.out | apply below_alloc | apply pw_below_drewN | apply below_drew1 | refine below_set ?_ GE350.out) | exact HB.out)) hb); clear HO_0; clear HO_351004; clear HO358; clear HO369; clear HO377; clear BK350; clear HB; have HO_0 := n0_; have HO_351004 := n1_; have HO358 := n2_; have HO369 := n3_; have HO377 := n4_; have BK350 := n5_; have HB := n6_; clear n0_ n1_ n2_ n3_ n4_ n5_ n6_; (try clear hb); (try clear hb2); (try clear hk); (try clear hi)))
                            go_ret
                            exact ⟨by first | rfl | (simp [errW_none, errW_some] <;> rfl) | (simp only [← hji14]; first | rfl | (simp [errW_none, errW_some] <;> rfl)) | (simp [*, errW_none, errW_some] <;> rfl), by repeat (first | (with_reducible first | exact HB.out | apply below_alloc | apply pw_below_drewN | apply below_drew1 | refine below_set ?_ GE350.out) | exact HB.out)⟩
                      · rw [if_neg c24] at H
                        exact absurd H (by simp)
                    · replace c23 := Bool.eq_false_iff.mpr c23
                      subst c23
                      have H1 : (none) = some r := by rw [if_neg (show ¬ (false = true) by decide)] at H; exact H
                      clear H
                      have H := H1
                      clear H1
                      exact absurd H (by simp)
                · replace c21 := Bool.eq_false_iff.mpr c21
                  subst c21
                  have H1 : (none) = some r := by rw [if_neg (show ¬ (false = true) by decide)] at H; exact H
                  clear H
                  have H := H1
                  clear H1
                  exact absurd H (by simp)
              · rw [if_neg c19] at H
                exact absurd H (by simp)
            · rw [if_neg c18] at H
              exact absurd H (by simp)
          · rw [if_neg c16] at H
            exact absurd H (by simp)
        · rw [if_neg c15] at H
          exact absurd H (by simp)

/-- What is left to show of reredoslaw08_TreeCut: of numbers and lists alone. -/
def reredoslaw08_TreeCut.Pure : Prop := ∀ (l0 : List (S25)) (a1_0 : Int) (a1_1 : ByteArray) (a1_2 : ByteArray) (a1_3 : ByteArray) (l1_4 : List ByteArray), (l0.length ≤ maxLen ∧ ∀ e_ ∈ l0, (((Lit.int .i64 e_.f0).wf = true) ∧ (e_.f1.size ≤ maxLen) ∧ (e_.f2.size ≤ maxLen) ∧ (e_.f3.size ≤ maxLen) ∧ (e_.f4.length ≤ maxLen ∧ ∀ ee_ ∈ e_.f4, (ee_.size ≤ maxLen)))) → ((Lit.int .i64 a1_0).wf = true) → (a1_1.size ≤ maxLen) → (a1_2.size ≤ maxLen) → (a1_3.size ≤ maxLen) → (l1_4.length ≤ maxLen ∧ ∀ e_ ∈ l1_4, (e_.size ≤ maxLen)) → ∃ k, reredoslaw08_TreeCut.f k l0 a1_0 a1_1 a1_2 a1_3 l1_4 = some true

/-! ### slices_Equal_string_string: function 47 -/
def slices_Equal_string_string.l0 : Nat → List ByteArray → List ByteArray → Int → Int → Option (Bool)
  | 0, _, _, _, _ => none
  | k + 1, x0, x1, x12, x13 => if x13 < x12 then (if 0 ≤ x13 then (if x13 < (x0.length : Int) then (if x13 < (x1.length : Int) then (if (rdOf ByteArray.empty x0 x13).toList = (rdOf ByteArray.empty x1 x13).toList then (slices_Equal_string_string.l0 k x0 x1 x12 (wrap64 (x13 + 1))) else (some false)) else (none)) else (none)) else (none)) else (some true)
def slices_Equal_string_string.f (k : Nat) (l0 : List ByteArray) (l1 : List ByteArray) : Option (Bool) := if (l0.length : Int) = (l1.length : Int) then (slices_Equal_string_string.l0 k l0 l1 (l0.length : Int) 0) else (some false)
theorem slices_Equal_string_string.mono_l : ∀ k, (∀ y0 y1 y2 y3, LeO (slices_Equal_string_string.l0 k y0 y1 y2 y3) (slices_Equal_string_string.l0 (k + 1) y0 y1 y2 y3))
  | 0 => fun _ _ _ _ r h => by simp [slices_Equal_string_string.l0] at h
  | k + 1 => by
    have ih0 := slices_Equal_string_string.mono_l k
    · intro y0 y1 y2 y3
      unfold slices_Equal_string_string.l0
      repeat' first
      | (with_reducible exact ih0 _ _ _ _)
      | (with_reducible exact LeO.refl _)
      | (with_reducible exact LeO.none _)
      | (with_reducible refine LeO.ite ?_ ?_)
      | (with_reducible refine LeO.bind ?_ (fun _ => ?_))
      | exact ih0 _ _ _ _
      | exact LeO.none _
      | refine LeO.ite ?_ ?_
      | refine LeO.bind ?_ (fun _ => ?_)
theorem slices_Equal_string_string.mono : ∀ a0 a1 k, LeO (slices_Equal_string_string.f k a0 a1) (slices_Equal_string_string.f (k + 1) a0 a1) := by
  intro a0 a1 k
  have ih0 := slices_Equal_string_string.mono_l k
  unfold slices_Equal_string_string.f
  repeat' first
      | (with_reducible exact ih0 _ _ _ _)
      | (with_reducible exact LeO.refl _)
      | (with_reducible exact LeO.none _)
      | (with_reducible refine LeO.ite ?_ ?_)
      | (with_reducible refine LeO.bind ?_ (fun _ => ?_))
      | exact ih0 _ _ _ _
      | exact LeO.none _
      | refine LeO.ite ?_ ?_
      | refine LeO.bind ?_ (fun _ => ?_)
set_option maxHeartbeats 8000000 in
set_option maxRecDepth 100000 in
theorem slices_Equal_string_string.calls (k : Nat) (A0 : Option Addr) (c0 : Nat) (l0 : List ByteArray) (A1 : Option Addr) (c1 : Nat) (l1 : List ByteArray) (r : Bool) (w : World) (hr0 : Kd.C Kd.string w A0 l0.length l0) (hc0 : l0.length ≤ c0) (hr1 : Kd.C Kd.string w A1 l1.length l1) (hc1 : l1.length ≤ c1) (h : slices_Equal_string_string.f k l0 l1 = some r) :
    Calls Try.prog 47 #[.slice A0 l0.length c0, .slice A1 l1.length c1] w fun e w' => e = .returned (.bool r) ∧ Drawn0 w w' := by
  have HR0 := Aside0.mk hr0
  have HC0 := Aside0.mk hc0
  clear hr0 hc0
  have HR1 := Aside0.mk hr1
  have HC1 := Aside0.mk hc1
  clear hr1 hc1
  have H : (if (l0.length : Int) = (l1.length : Int) then (slices_Equal_string_string.l0 k l0 l1 (l0.length : Int) 0) else (some false)) = some r := h
  clear h
  by_cases c3 : (l0.length : Int) = (l1.length : Int)
  · rw [if_pos c3] at H
    have c3b0 : ((l0.length : Int) == (l1.length : Int)) = true := beq_iff_eq.mpr c3
    have c3b1 : ((l0.length : Int) != (l1.length : Int)) = false := bne_eq_false_iff_eq.mpr c3
    have c3b2 : (l0.length == l1.length) = true := by first | simpa using c3 | (simp at c3 ⊢; omega)
    clear c3
    have H' := Aside0.mk H
    clear H
    go_enter Try.func47, Try.ntmps47
    go_wp2
    repeat (go_quiet (fail); try go_wp2)
    go_loopg [13] k (fun kq v13 w' => ∃ (x13_1 : Int), v13 = .int .i64 x13_1 ∧ Aside0 (slices_Equal_string_string.l0 kq l0 l1 (l0.length : Int) x13_1 = some r) ∧ Aside0 (kq ≤ k) ∧ Drawn0 w w')
    case atStart => exact ⟨(0), (by first | rfl | (simp; done) | (simp [*]; done)), H', ⟨Nat.le_refl _⟩, by repeat (first | exact Drawn0.refl _ | apply Drawn0.step)⟩
    case round =>
      clear H'
      try clear c1
      try clear p2
      try clear c3
      try clear c3b0
      try clear c3b1
      try clear c3b2
      obtain ⟨x13_1, rfl, HA, HK1, ⟨m1, rfl⟩⟩ := hrel
      cases gk with
      | zero => exact absurd HA.out (by simp [slices_Equal_string_string.l0])
      | succ k1 =>
        have H := HA.out
        clear HA
        simp only [slices_Equal_string_string.l0] at H
        by_cases c4 : x13_1 < (l0.length : Int)
        · rw [if_pos c4] at H
          have c4b0 : decide (x13_1 < (l0.length : Int)) = true := decide_eq_true c4
          clear c4
          by_cases c5 : 0 ≤ x13_1
          · rw [if_pos c5] at H
            have c5b0 : decide (0 ≤ x13_1) = true := decide_eq_true c5
            clear c5
            by_cases c6 : x13_1 < (l0.length : Int)
            · rw [if_pos c6] at H
              have c6b0 : decide (x13_1 < (l0.length : Int)) = true := decide_eq_true c6
              clear c6
              by_cases c7 : x13_1 < (l1.length : Int)
              · rw [if_pos c7] at H
                have c7b0 : decide (x13_1 < (l1.length : Int)) = true := decide_eq_true c7
                clear c7
                by_cases c8 : (rdOf ByteArray.empty l0 x13_1).toList = (rdOf ByteArray.empty l1 x13_1).toList
                · rw [if_pos c8] at H
                  have c8b0 : ((rdOf ByteArray.empty l0 x13_1).toList == (rdOf ByteArray.empty l1 x13_1).toList) = true := beq_iff_eq.mpr c8
                  have c8b1 : ((rdOf ByteArray.empty l0 x13_1).toList != (rdOf ByteArray.empty l1 x13_1).toList) = false := bne_eq_false_iff_eq.mpr c8
                  clear c8
                  have H' := Aside0.mk H
                  clear H
                  have p381 : 0 ≤ (x13_1 : Int) := of_decide_eq_true (by first | (with_reducible assumption) | assumption)
                  have q381 : x13_1 < (l0.length : Int) := of_decide_eq_true (by first | (with_reducible assumption) | assumption)
                  obtain ⟨ad381, e381, hx381_0⟩ := Kd.at_string HR0.out x13_1 p381 q381
                  cases e381
                  replace p381 := eq_true p381
                  replace q381 := eq_true q381
                  have p382 : 0 ≤ (x13_1 : Int) := of_decide_eq_true (by first | (with_reducible assumption) | assumption)
                  have q382 : x13_1 < (l1.length : Int) := of_decide_eq_true (by first | (with_reducible assumption) | assumption)
                  obtain ⟨ad382, e382, hx382_0⟩ := Kd.at_string HR1.out x13_1 p382 q382
                  cases e382
                  replace p382 := eq_true p382
                  replace q382 := eq_true q382
                  go_wp2
                  repeat (go_quiet (fail); try go_wp2)
                  go_roundg k1
                  case measure => have := HK1.out; omega
                  case rel => exact ⟨(wrap64 (x13_1 + 1)), (by first | rfl | (simp; done) | (simp [*]; done)), H', ⟨by have := HK1.out; omega⟩, by repeat (first | exact Drawn0.refl _ | apply Drawn0.step)⟩
                · rw [if_neg c8] at H
                  have c8b0 : ((rdOf ByteArray.empty l0 x13_1).toList == (rdOf ByteArray.empty l1 x13_1).toList) = false := beq_eq_false_iff_ne.mpr c8
                  have c8b1 : ((rdOf ByteArray.empty l0 x13_1).toList != (rdOf ByteArray.empty l1 x13_1).toList) = true := bne_iff_ne.mpr c8
                  obtain rfl := Option.some.inj H
                  have p381 : 0 ≤ (x13_1 : Int) := of_decide_eq_true (by first | (with_reducible assumption) | assumption)
                  have q381 : x13_1 < (l0.length : Int) := of_decide_eq_true (by first | (with_reducible assumption) | assumption)
                  obtain ⟨ad381, e381, hx381_0⟩ := Kd.at_string HR0.out x13_1 p381 q381
                  cases e381
                  replace p381 := eq_true p381
                  replace q381 := eq_true q381
                  have p382 : 0 ≤ (x13_1 : Int) := of_decide_eq_true (by first | (with_reducible assumption) | assumption)
                  have q382 : x13_1 < (l1.length : Int) := of_decide_eq_true (by first | (with_reducible assumption) | assumption)
                  obtain ⟨ad382, e382, hx382_0⟩ := Kd.at_string HR1.out x13_1 p382 q382
                  cases e382
                  replace p382 := eq_true p382
                  replace q382 := eq_true q382
                  go_wp2
                  repeat (go_quiet (fail); try go_wp2)
                  go_ret
                  exact ⟨by first | rfl | (simp; done) | (simp [*]; done), by repeat (first | exact Drawn0.refl _ | apply Drawn0.step)⟩
              · rw [if_neg c7] at H
                exact absurd H (by simp)
            · rw [if_neg c6] at H
              exact absurd H (by simp)
          · rw [if_neg c5] at H
            exact absurd H (by simp)
        · rw [if_neg c4] at H
          have c4b0 : decide (x13_1 < (l0.length : Int)) = false := decide_eq_false c4
          clear c4
          obtain rfl := Option.some.inj H
          go_wp2
          repeat (go_quiet (fail); try go_wp2)
          go_ret
          exact ⟨by first | rfl | (simp; done) | (simp [*]; done), by repeat (first | exact Drawn0.refl _ | apply Drawn0.step)⟩
  · rw [if_neg c3] at H
    have c3b0 : ((l0.length : Int) == (l1.length : Int)) = false := beq_eq_false_iff_ne.mpr c3
    have c3b1 : ((l0.length : Int) != (l1.length : Int)) = true := bne_iff_ne.mpr c3
    have c3b2 : (l0.length == l1.length) = false := by first | simpa using c3 | (simp at c3 ⊢; omega)
    obtain rfl := Option.some.inj H
    go_enter Try.func47, Try.ntmps47
    go_wp2
    repeat (go_quiet (fail); try go_wp2)
    go_ret
    exact ⟨by first | rfl | (simp; done) | (simp [*]; done), by repeat (first | exact Drawn0.refl _ | apply Drawn0.step)⟩

end Go.Proofs.Ytdelccahgchadaa.P
