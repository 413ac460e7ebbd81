/- Walks, written by a program out of the translation. -/
import Derived.Test.YtdelccahgchadaaPx0
import Derived.Test.YtdelccahgchadaaPx2
import Derived.Test.YtdelccahgchadaaPx3
import Derived.Test.YtdelccahgchadaaGBase
import Derived.Test.YtdelccahgchadaaGLex
import Derived.Test.YtdelccahgchadaaGTree
namespace Go.Proofs.Ytdelccahgchadaa.P
open Go.RowKit Go.Proofs.YtdelccahgchadaaW.PrintWords Go.Proofs.YtdelccahgchadaaW.PrintLast Go.Proofs.YtdelccahgchadaaW.PrintMore
attribute [local go_sem] max2_int min2_int max_two min_two max_three min_three max_four min_four   -- for this text's walks alone
set_option linter.unusedVariables false
set_option linter.unusedSimpArgs false

/-! ### tree_Depth: function 26 -/
mutual
def tree_Depth.l0 : Nat → Int → List Int → List (S25) → Int → Int → Option (Int)
  | 0, _, _, _, _, _ => none
  | k + 1, x5, x6, x16, x17, x18 => if x18 < x17 then (if 0 ≤ x18 then (if x18 < (x16.length : Int) then ((tree_Kids.f k ((rd_T25 x16 x18).f0) ((rd_T25 x16 x18).f1) ((rd_T25 x16 x18).f2) ((rd_T25 x16 x18).f3) ((rd_T25 x16 x18).f4)).bind fun t121 => (if x6.length < 17592186044416 then ((some (x6 ++ [t121] : List Int)).bind fun y122 => (tree_Depth.l1 k (mx x5 (y122.length : Int)) y122 x16 x17 x18)) else (none))) else (none)) else (none)) else (some x5)
def tree_Depth.l1 : Nat → Int → List Int → List (S25) → Int → Int → Option (Int)
  | 0, _, _, _, _, _ => none
  | k + 1, x5, x6, x16, x17, x18 => if (x6.length : Int) > 0 then (if 0 ≤ (wrap64 ((x6.length : Int) - 1)) then (if (wrap64 ((x6.length : Int) - 1)) < (x6.length : Int) then (tree_Depth.j2 k x5 x6 x16 x17 x18 ((rd x6 (wrap64 ((x6.length : Int) - 1))) == 0)) else (none)) else (none)) else (tree_Depth.j2 k x5 x6 x16 x17 x18 false)
def tree_Depth.j2 : Nat → Int → List Int → List (S25) → Int → Int → Bool → Option (Int)
  | 0, _, _, _, _, _, _ => none
  | k + 1, x5, x6, x16, x17, x18, x42 => if x42 = true then (if 0 ≤ (wrap64 ((x6.length : Int) - 1)) then (if (wrap64 ((x6.length : Int) - 1)) ≤ (x6.length : Int) then ((some (x6.take ((wrap64 ((x6.length : Int) - 1)) : Int).toNat : List Int)).bind fun y126 => (if (y126.length : Int) > 0 then (if 0 ≤ (wrap64 ((y126.length : Int) - 1)) then (if (wrap64 ((y126.length : Int) - 1)) < (y126.length : Int) then (tree_Depth.l1 k x5 (y126.set ((wrap64 ((y126.length : Int) - 1)) : Int).toNat (wrap64 ((rd y126 (wrap64 ((y126.length : Int) - 1))) - 1))) x16 x17 x18) else (none)) else (none)) else (tree_Depth.l1 k x5 y126 x16 x17 x18))) else (none)) else (none)) else (if (x6.length : Int) = 0 then (some x5) else (tree_Depth.l0 k x5 x6 x16 x17 (wrap64 (x18 + 1))))
end
def tree_Depth.f (k : Nat) (l0 : List (S25)) : Option (Int) := (tree_End.f k l0 0).bind fun bt117 => (if bt117.2 = true then (tree_Depth.l0 k 0 ([] : List Int) l0 (l0.length : Int) 0) else (some 0))
theorem tree_Depth.mono_l : ∀ k, (∀ y0 y1 y2 y3 y4, LeO (tree_Depth.l0 k y0 y1 y2 y3 y4) (tree_Depth.l0 (k + 1) y0 y1 y2 y3 y4)) ∧ (∀ y0 y1 y2 y3 y4, LeO (tree_Depth.l1 k y0 y1 y2 y3 y4) (tree_Depth.l1 (k + 1) y0 y1 y2 y3 y4)) ∧ (∀ y0 y1 y2 y3 y4 y5, LeO (tree_Depth.j2 k y0 y1 y2 y3 y4 y5) (tree_Depth.j2 (k + 1) y0 y1 y2 y3 y4 y5))
  | 0 => ⟨fun _ _ _ _ _ r h => by simp [tree_Depth.l0] at h, fun _ _ _ _ _ r h => by simp [tree_Depth.l1] at h, fun _ _ _ _ _ _ r h => by simp [tree_Depth.j2] at h⟩
  | k + 1 => by
    obtain ⟨ih0, ih1, ih2⟩ := tree_Depth.mono_l k
    refine ⟨?_, ?_, ?_⟩
    · intro y0 y1 y2 y3 y4
      unfold tree_Depth.l0
      repeat' first
      | (with_reducible exact ih0 _ _ _ _ _)
      | (with_reducible exact ih1 _ _ _ _ _)
      | (with_reducible exact ih2 _ _ _ _ _ _)
      | (with_reducible exact tree_End.mono _ _ _)
      | (with_reducible exact tree_Kids.mono _ _ _ _ _ _)
      | (with_reducible exact LeO.refl _)
      | (with_reducible exact LeO.none _)
      | (with_reducible refine LeO.ite ?_ ?_)
      | (with_reducible refine LeO.bind ?_ (fun _ => ?_))
      | exact ih0 _ _ _ _ _
      | exact ih1 _ _ _ _ _
      | exact ih2 _ _ _ _ _ _
      | exact tree_End.mono _ _ _
      | exact tree_Kids.mono _ _ _ _ _ _
      | exact LeO.none _
      | refine LeO.ite ?_ ?_
      | refine LeO.bind ?_ (fun _ => ?_)
    · intro y0 y1 y2 y3 y4
      unfold tree_Depth.l1
      repeat' first
      | (with_reducible exact ih0 _ _ _ _ _)
      | (with_reducible exact ih1 _ _ _ _ _)
      | (with_reducible exact ih2 _ _ _ _ _ _)
      | (with_reducible exact tree_End.mono _ _ _)
      | (with_reducible exact tree_Kids.mono _ _ _ _ _ _)
      | (with_reducible exact LeO.refl _)
      | (with_reducible exact LeO.none _)
      | (with_reducible refine LeO.ite ?_ ?_)
      | (with_reducible refine LeO.bind ?_ (fun _ => ?_))
      | exact ih0 _ _ _ _ _
      | exact ih1 _ _ _ _ _
      | exact ih2 _ _ _ _ _ _
      | exact tree_End.mono _ _ _
      | exact tree_Kids.mono _ _ _ _ _ _
      | exact LeO.none _
      | refine LeO.ite ?_ ?_
      | refine LeO.bind ?_ (fun _ => ?_)
    · intro y0 y1 y2 y3 y4 y5
      unfold tree_Depth.j2
      repeat' first
      | (with_reducible exact ih0 _ _ _ _ _)
      | (with_reducible exact ih1 _ _ _ _ _)
      | (with_reducible exact ih2 _ _ _ _ _ _)
      | (with_reducible exact tree_End.mono _ _ _)
      | (with_reducible exact tree_Kids.mono _ _ _ _ _ _)
      | (with_reducible exact LeO.refl _)
      | (with_reducible exact LeO.none _)
      | (with_reducible refine LeO.ite ?_ ?_)
      | (with_reducible refine LeO.bind ?_ (fun _ => ?_))
      | exact ih0 _ _ _ _ _
      | exact ih1 _ _ _ _ _
      | exact ih2 _ _ _ _ _ _
      | exact tree_End.mono _ _ _
      | exact tree_Kids.mono _ _ _ _ _ _
      | exact LeO.none _
      | refine LeO.ite ?_ ?_
      | refine LeO.bind ?_ (fun _ => ?_)
theorem tree_Depth.mono : ∀ a0 k, LeO (tree_Depth.f k a0) (tree_Depth.f (k + 1) a0) := by
  intro a0 k
  obtain ⟨ih0, ih1, ih2⟩ := tree_Depth.mono_l k
  unfold tree_Depth.f
  repeat' first
      | (with_reducible exact ih0 _ _ _ _ _)
      | (with_reducible exact ih1 _ _ _ _ _)
      | (with_reducible exact ih2 _ _ _ _ _ _)
      | (with_reducible exact tree_End.mono _ _ _)
      | (with_reducible exact tree_Kids.mono _ _ _ _ _ _)
      | (with_reducible exact LeO.refl _)
      | (with_reducible exact LeO.none _)
      | (with_reducible refine LeO.ite ?_ ?_)
      | (with_reducible refine LeO.bind ?_ (fun _ => ?_))
      | exact ih0 _ _ _ _ _
      | exact ih1 _ _ _ _ _
      | exact ih2 _ _ _ _ _ _
      | exact tree_End.mono _ _ _
      | exact tree_Kids.mono _ _ _ _ _ _
      | exact LeO.none _
      | refine LeO.ite ?_ ?_
      | refine LeO.bind ?_ (fun _ => ?_)
set_option maxHeartbeats 8000000 in
set_option maxRecDepth 100000 in
theorem tree_Depth.calls (k : Nat) (A0 : Option Addr) (c0 : Nat) (l0 : List (S25)) (r : Int) (w : World) (hr0 : Kd.C k25 w A0 l0.length l0) (hc0 : l0.length ≤ c0) (h : tree_Depth.f k l0 = some r) :
    Calls Try.prog 26 #[.slice A0 l0.length c0] w fun e w' => e = .returned (.int .i64 r) ∧ Below w.heap.size w w' := by
  have hu25 := Try.underlying25
  have HR0 := Aside0.mk hr0
  have HC0 := Aside0.mk hc0
  clear hr0 hc0
  have HB := Aside0.mk (Below.refl w.heap.size w)
  have H : ((tree_End.f k l0 0).bind fun bt117 => (if bt117.2 = true then (tree_Depth.l0 k 0 ([] : List Int) l0 (l0.length : Int) 0) else (some 0))) = some r := h
  clear h
  replace H := Option.bind_eq_some_iff.mp H
  obtain ⟨⟨t117, t118⟩, A20, H⟩ := H
  replace H : (if t118 = true then (tree_Depth.l0 k 0 ([] : List Int) l0 (l0.length : Int) 0) else (some 0)) = some r := H
  have A2 := Aside0.mk A20
  clear A20
  by_cases c3 : t118 = true
  · subst c3
    have H1 : (tree_Depth.l0 k 0 ([] : List Int) l0 (l0.length : Int) 0) = some r := by rw [if_pos rfl] at H; exact H
    clear H
    have H := H1
    clear H1
    have H' := Aside0.mk H
    clear H
    go_enter Try.func26, Try.ntmps26
    go_wp2_with (first | ((with_reducible refine gate_callee (f := 19) rfl ?_); refine goesL_ (some 11) rfl rfl Try.func19 (by kernel_rfl) rfl #[.slice A0 l0.length c0, .int .i64 0] rfl (by (try simp only [List.map_toArray, List.map_cons, List.map_nil]); first | done | rfl | (simp only [List.length_drop, List.length_take]; rfl)) ?_; (with_reducible refine (tree_End.calls k _ _ l0 0 t117 true _ ?side1 ?side2 A2.out).mono ?_); (case side1 => repeat (first | exact HR0.out | (with_reducible refine Kd.C_alloc ?_ _) | (with_reducible refine Kd.C_drewN ?_ _) | (with_reducible refine Kd.C_drew ?_))); (case side2 => exact HC0.out); rintro e w4 ⟨rfl, hb⟩; refine ⟨_, rfl, ?_⟩; have n0_ := Aside0.mk (below_step (by repeat (first | (with_reducible first | exact HB.out | apply below_alloc | apply pw_below_drewN | apply below_drew1) | exact HB.out)) hb); clear HB; have HB := n0_; clear n0_; (try clear hb); (try clear hb2); (try clear hk); (try clear hi)))
    go_loopg [5, 6, 18] k (fun kq v5 v6 v18 w' => ∃ (x5_1 : Int) (x6_1 : List Int) (x18_1 : Int), v5 = .int .i64 x5_1 ∧ v18 = .int .i64 x18_1 ∧ Aside0 (tree_Depth.l0 kq x5_1 x6_1 l0 (l0.length : Int) x18_1 = some r) ∧ Aside0 (kq ≤ k) ∧ Aside0 (Kd.R (Kd.int .i64) 3 w' w.heap.size (fun _ => True) v6 x6_1) ∧ Aside0 (Below w.heap.size w w'))
    case atStart => exact ⟨(0), (([] : List Int)), (0), (by first | rfl | (simp; done) | (simp [*]; done)), (by first | rfl | (simp; done) | (simp [*]; done)), H', ⟨Nat.le_refl _⟩, ⟨by first | exact Kd.R_nil _ _ _ _ _ | exact Kd.N_nil _ _ _ _ _ | exact Kd.V_nil _ _ _ _ _ | exact Kd.Q_nil _ _ _ _ _ | exact Kd.S_nil _ _ _ _ _⟩, ⟨by repeat (first | (with_reducible first | exact HB.out | apply below_alloc | apply pw_below_drewN | apply below_drew1) | exact HB.out)⟩⟩
    case round =>
      clear H'
      try clear c1
      try clear c2
      try clear p2
      try clear c3
      obtain ⟨x5_1, x6_1, x18_1, rfl, rfl, HA, HK1, HO_6, HB⟩ := hrel
      cases gk with
      | zero => exact absurd HA.out (by simp [tree_Depth.l0])
      | succ k1 =>
        have H := HA.out
        clear HA
        simp only [tree_Depth.l0] at H
        by_cases c5 : x18_1 < (l0.length : Int)
        · rw [if_pos c5] at H
          have c5b0 : decide (x18_1 < (l0.length : Int)) = true := decide_eq_true c5
          clear c5
          by_cases c6 : 0 ≤ x18_1
          · rw [if_pos c6] at H
            have c6b0 : decide (0 ≤ x18_1) = true := decide_eq_true c6
            clear c6
            by_cases c7 : x18_1 < (l0.length : Int)
            · rw [if_pos c7] at H
              have c7b0 : decide (x18_1 < (l0.length : Int)) = true := decide_eq_true c7
              clear c7
              replace H := Option.bind_eq_some_iff.mp H
              obtain ⟨t121, A80, H⟩ := H
              replace H : (if x6_1.length < 17592186044416 then ((some (x6_1 ++ [t121] : List Int)).bind fun y122 => (tree_Depth.l1 k1 (mx x5_1 (y122.length : Int)) y122 l0 (l0.length : Int) x18_1)) else (none)) = some r := H
              have A8 := Aside0.mk A80
              clear A80
              by_cases c9 : x6_1.length < 17592186044416
              · rw [if_pos c9] at H
                have LMc9 := Aside0.mk c9
                clear c9
                obtain ⟨y122, hy122⟩ : ∃ y_ : List Int, y_ = (x6_1 ++ [t121]) := ⟨_, rfl⟩
                replace H : (tree_Depth.l1 k1 (mx x5_1 (y122.length : Int)) y122 l0 (l0.length : Int) x18_1) = some r := by first | (rw [hy122]; with_reducible exact H) | (have H2_ := (Option.bind_some _ _).symm.trans H; rw [hy122]; with_reducible exact H2_) | (have H2_ := (Option.bind_some _ _).symm.trans H; with_reducible exact H2_) | with_reducible exact H | (rw [hy122]; exact H) | exact H
                have Ny122 := Aside0.mk hy122
                clear hy122
                obtain ⟨ji10, hji10⟩ : ∃ j_ : Int, (mx x5_1 (y122.length : Int)) = j_ := ⟨_, rfl⟩
                replace H : (tree_Depth.l1 k1 ji10 y122 l0 (l0.length : Int) x18_1) = some r := by first | (rw [hji10] at H; exact H) | (simp only [hji10] at H ⊢; exact H)
                (try rw [hji10] at A8)
                have hji10_ : (if x5_1 < (y122.length : Int) then (y122.length : Int) else x5_1) = ji10 := hji10
                have H' := Aside0.mk H
                clear H
                have p119 : 0 ≤ (x18_1 : Int) := of_decide_eq_true (by first | (with_reducible assumption) | assumption)
                have q119 : x18_1 < (l0.length : Int) := of_decide_eq_true (by first | (with_reducible assumption) | assumption)
                obtain ⟨ad119, A119_4, c119_4, e119, hx119_0, hx119_1, hx119_2, hx119_3, hx119_4, hl119_4, hi119_4⟩ := at_T25 HR0.out x18_1 p119 q119
                cases e119
                replace hx119_0 := (HB.out.cell (World.block_lt_of_cell? w _ hx119_0)).trans hx119_0
                replace hx119_1 := (HB.out.cell (World.block_lt_of_cell? w _ hx119_1)).trans hx119_1
                replace hx119_2 := (HB.out.cell (World.block_lt_of_cell? w _ hx119_2)).trans hx119_2
                replace hx119_3 := (HB.out.cell (World.block_lt_of_cell? w _ hx119_3)).trans hx119_3
                replace hx119_4 := (HB.out.cell (World.block_lt_of_cell? w _ hx119_4)).trans hx119_4
                have HR119_4 := Aside0.mk hi119_4
                have HC119_4 := Aside0.mk hl119_4
                clear hi119_4 hl119_4
                replace p119 := eq_true p119
                replace q119 := eq_true q119
                go_wp2_with (first | ((with_reducible refine gate_dst (N := 8) rfl ?_); (try (refine gate_guard (by rfl) ?_; dsimp only)); refine box_event ?hg (N := 8) ?hd (cs := #[.int .i64 0, .string (⟨#[]⟩ : ByteArray), .string (⟨#[]⟩ : ByteArray), .string (⟨#[]⟩ : ByteArray), .slice none 0 0]) (t := 25) ?hr ?_; (case hd => rfl); (case hg => rfl); (case hr => first | (go_simp; done) | (go_simp; rfl)); intro gb120 hg w11 hbox hb; have n0_ := Aside0.mk (Kd.R_below (by (with_reducible repeat (first | apply Kd.R_alloc | apply Kd.R_drewN | apply Kd.R_drew)); exact HO_6.out) hb); have n1_ := Aside0.mk (below_step (by repeat (first | (with_reducible first | exact HB.out | apply below_alloc | apply pw_below_drewN | apply below_drew1) | exact HB.out)) hb); have n2_ := Aside0.mk (hbox); have n3_ := Aside0.mk ((by rw [hg]; exact (below_size (by repeat (first | (with_reducible first | exact HB.out | apply below_alloc | apply pw_below_drewN | apply below_drew1) | exact HB.out))) : w.heap.size ≤ gb120)); have n4_ := Aside0.mk ((by rw [hg]; exact (below_size (by repeat (first | (with_reducible first | exact HB.out | apply below_alloc | apply pw_below_drewN | apply below_drew1) | exact HB.out))) : w.heap.size ≤ gb120)); clear HO_6; clear HB; have HO_6 := n0_; have HB := n1_; have BK120 := n2_; have GW120 := n3_; have GE120 := n4_; clear n0_ n1_ n2_ n3_ n4_; clear hb hbox hg; have hcz12_0 : w11.cell? ⟨gb120, 0, none⟩ = some (.int .i64 0) := (blk_cell BK120.out 0).trans rfl; have hcz12_1 : w11.cell? ⟨gb120, 1, none⟩ = some (.string (⟨#[]⟩ : ByteArray)) := (blk_cell BK120.out 1).trans rfl; have hcz12_2 : w11.cell? ⟨gb120, 2, none⟩ = some (.string (⟨#[]⟩ : ByteArray)) := (blk_cell BK120.out 2).trans rfl; have hcz12_3 : w11.cell? ⟨gb120, 3, none⟩ = some (.string (⟨#[]⟩ : ByteArray)) := (blk_cell BK120.out 3).trans rfl; have hcz12_4 : w11.cell? ⟨gb120, 4, none⟩ = some (.slice none 0 0) := (blk_cell BK120.out 4).trans rfl; have hfz12_0 := blk_frozen BK120.out 0; have hfz12_1 := blk_frozen BK120.out 1; have hfz12_2 := blk_frozen BK120.out 2; have hfz12_3 := blk_frozen BK120.out 3; have hfz12_4 := blk_frozen BK120.out 4) | ((with_reducible refine gate_callee (f := 21) rfl ?_); refine goesL_ (some 24) rfl rfl Try.func21 (by kernel_rfl) rfl #[.agg #[.int .i64 ((rd_T25 l0 x18_1).f0), .string ((rd_T25 l0 x18_1).f1), .string ((rd_T25 l0 x18_1).f2), .string ((rd_T25 l0 x18_1).f3), .slice A119_4 ((rd_T25 l0 x18_1).f4).length c119_4]] rfl (by (try simp only [List.map_toArray, List.map_cons, List.map_nil]); first | done | rfl | (simp only [List.length_drop, List.length_take]; rfl)) ?_; (with_reducible refine (tree_Kids.calls k1 ((rd_T25 l0 x18_1).f0) ((rd_T25 l0 x18_1).f1) ((rd_T25 l0 x18_1).f2) ((rd_T25 l0 x18_1).f3) _ _ ((rd_T25 l0 x18_1).f4) t121 _ ?side1 ?side2 A8.out).mono ?_); (case side1 => exact Kd.C_below HR119_4.out (by repeat (first | (with_reducible first | exact HB.out | apply below_alloc | apply pw_below_drewN | apply below_drew1 | refine below_set ?_ GE120.out) | exact HB.out))); (case side2 => exact HC119_4.out); rintro e w13 ⟨rfl, hb⟩; refine ⟨_, rfl, ?_⟩; have n0_ := Aside0.mk (Kd.R_below (by (with_reducible repeat (first | apply Kd.R_alloc | apply Kd.R_drewN | apply Kd.R_drew)); exact (Kd.R_mono (Kd.R_far (p := ⟨gb120, 4, none⟩) (Kd.R_far (p := ⟨gb120, 3, none⟩) (Kd.R_far (p := ⟨gb120, 2, none⟩) (Kd.R_far (p := ⟨gb120, 1, none⟩) (Kd.R_far (p := ⟨gb120, 0, none⟩) (Kd.R_types HO_6.out BK120.out (by decide)) (fun _ hk => hk.2) (.int .i64 ((rd_T25 l0 x18_1).f0))) (fun _ hk => hk.2) (.string ((rd_T25 l0 x18_1).f1))) (fun _ hk => hk.2) (.string ((rd_T25 l0 x18_1).f2))) (fun _ hk => hk.2) (.string ((rd_T25 l0 x18_1).f3))) (fun _ hk => hk.2) (.slice A119_4 ((rd_T25 l0 x18_1).f4).length c119_4)) (fun _ h_ => h_.1))) hb); have n1_ := Aside0.mk (blk_below (g := gb120) (o := .cells #[.int .i64 ((rd_T25 l0 x18_1).f0), .string ((rd_T25 l0 x18_1).f1), .string ((rd_T25 l0 x18_1).f2), .string ((rd_T25 l0 x18_1).f3), .slice A119_4 ((rd_T25 l0 x18_1).f4).length c119_4] 25 (0, 0)) (by (with_reducible repeat (first | refine blk_drewN ?_ _ | refine blk_drew ?_ | refine blk_alloc ?_ _)); refine blk_put (cs := #[.int .i64 ((rd_T25 l0 x18_1).f0), .string ((rd_T25 l0 x18_1).f1), .string ((rd_T25 l0 x18_1).f2), .string ((rd_T25 l0 x18_1).f3), .slice none 0 0]) ?_ 4 _ rfl; (with_reducible repeat (first | refine blk_drewN ?_ _ | refine blk_drew ?_ | refine blk_alloc ?_ _)); refine blk_put (cs := #[.int .i64 ((rd_T25 l0 x18_1).f0), .string ((rd_T25 l0 x18_1).f1), .string ((rd_T25 l0 x18_1).f2), .string (⟨#[]⟩ : ByteArray), .slice none 0 0]) ?_ 3 _ rfl; (with_reducible repeat (first | refine blk_drewN ?_ _ | refine blk_drew ?_ | refine blk_alloc ?_ _)); refine blk_put (cs := #[.int .i64 ((rd_T25 l0 x18_1).f0), .string ((rd_T25 l0 x18_1).f1), .string (⟨#[]⟩ : ByteArray), .string (⟨#[]⟩ : ByteArray), .slice none 0 0]) ?_ 2 _ rfl; (with_reducible repeat (first | refine blk_drewN ?_ _ | refine blk_drew ?_ | refine blk_alloc ?_ _)); refine blk_put (cs := #[.int .i64 ((rd_T25 l0 x18_1).f0), .string (⟨#[]⟩ : ByteArray), .string (⟨#[]⟩ : ByteArray), .string (⟨#[]⟩ : ByteArray), .slice none 0 0]) ?_ 1 _ rfl; (with_reducible repeat (first | refine blk_drewN ?_ _ | refine blk_drew ?_ | refine blk_alloc ?_ _)); refine blk_put (cs := #[.int .i64 0, .string (⟨#[]⟩ : ByteArray), .string (⟨#[]⟩ : ByteArray), .string (⟨#[]⟩ : ByteArray), .slice none 0 0]) ?_ 0 _ rfl; (with_reducible repeat (first | refine blk_drewN ?_ _ | refine blk_drew ?_ | refine blk_alloc ?_ _)); exact BK120.out) hb); have n2_ := Aside0.mk (below_step (by repeat (first | (with_reducible first | exact HB.out | apply below_alloc | apply pw_below_drewN | apply below_drew1 | refine below_set ?_ GE120.out) | exact HB.out)) hb); clear HO_6; clear BK120; clear HB; have HO_6 := n0_; have BK120 := n1_; have HB := n2_; clear n0_ n1_ n2_; (try clear hb); (try clear hb2); (try clear hk); (try clear hi)) | ((with_reducible refine gate_builtin (b := .append) (xs := #[.tmp 22, .tmp 25]) rfl ?_); (try (refine gate_guard (by rfl) ?_; dsimp only)); at_builtin; refine Kd.R_append (Kd.int .i64) (w0 := w) w.heap.size rfl (.tmp 22) (.tmp 25) 32 3 (.int .i64 0) 8 rfl Try.underlying32 info3 rfl (by decide) (by omega) u6 x6_1 t121 [.int .i64 t121] (fun _ => True) (fun _ => False) rfl rfl ?aP (fun _ hk => hk.elim) ?aF ?aO ?aB ?aS ?aL ?_; (case aP => exact rfl); (case aB => exact (by repeat (first | (with_reducible first | exact HB.out | apply below_alloc | apply pw_below_drewN | apply below_drew1 | refine below_set ?_ GE120.out) | exact HB.out))); (case aF => exact (fun _ _ => trivial)); (case aO => exact (by (with_reducible repeat (first | apply Kd.R_alloc | apply Kd.R_drewN | apply Kd.R_drew)); exact HO_6.out)); (case aS => exact (below_size (by repeat (first | (with_reducible first | exact HB.out | apply below_alloc | apply pw_below_drewN | apply below_drew1 | refine below_set ?_ GE120.out) | exact HB.out)))); (case aL => have := LMc9.out; omega); intro v123 w14 ho hb hg hat; rw [← Ny122.out] at ho; have n0_ := Aside0.mk (blk_grown (g := gb120) (o := .cells #[.int .i64 ((rd_T25 l0 x18_1).f0), .string ((rd_T25 l0 x18_1).f1), .string ((rd_T25 l0 x18_1).f2), .string ((rd_T25 l0 x18_1).f3), .slice A119_4 ((rd_T25 l0 x18_1).f4).length c119_4] 25 (0, 0)) (by (with_reducible repeat (first | refine blk_drewN ?_ _ | refine blk_drew ?_ | refine blk_alloc ?_ _)); exact BK120.out) hg (Kd.R_ne HO_6.out BK120.out (by decide))); have n1_ := Aside0.mk (hb); have n2_ := Aside0.mk (ho); clear BK120; clear HB; clear HO_6; have BK120 := n0_; have HB := n1_; have HO124 := n2_; clear n0_ n1_ n2_; clear ho hb hg hat; obtain ⟨Ao15, co15, eo15⟩ := Kd.R_slice HO124.out; subst eo15))
                go_loopg [6] k1 (fun kq v6 w' => ∃ (x6_2 : List Int), Aside0 (tree_Depth.l1 kq ji10 x6_2 l0 (l0.length : Int) x18_1 = some r) ∧ Aside0 (kq ≤ k1) ∧ Aside0 (Kd.R (Kd.int .i64) 3 w' w.heap.size (fun _ => True) v6 x6_2) ∧ Aside0 (w'.heap[gb120]? = some (.cells #[.int .i64 ((rd_T25 l0 x18_1).f0), .string ((rd_T25 l0 x18_1).f1), .string ((rd_T25 l0 x18_1).f2), .string ((rd_T25 l0 x18_1).f3), (.slice A119_4 ((rd_T25 l0 x18_1).f4).length c119_4)] 25 (0, 0))) ∧ Aside0 (Below w.heap.size w w'))
                case atStart => exact ⟨(y122), H', ⟨Nat.le_refl _⟩, ⟨by (with_reducible repeat (first | apply Kd.R_alloc | apply Kd.R_drewN | apply Kd.R_drew)); exact HO124.out⟩, ⟨by (with_reducible repeat (first | refine blk_drewN ?_ _ | refine blk_drew ?_ | refine blk_alloc ?_ _)); exact BK120.out⟩, ⟨by repeat (first | (with_reducible first | exact HB.out | apply below_alloc | apply pw_below_drewN | apply below_drew1 | refine below_set ?_ GE120.out) | exact HB.out)⟩⟩
                case round =>
                  clear H'
                  try clear c1
                  try clear p1
                  try clear q1
                  try clear hx1
                  try clear c2
                  try clear p2
                  try clear c3
                  try clear c5
                  try clear c5b0
                  try clear c6
                  try clear c6b0
                  try clear c7
                  try clear c7b0
                  try clear c9
                  try clear c11
                  try clear p11
                  try clear q11
                  try clear hx11
                  try clear hcz12_0
                  try clear hcz12_1
                  try clear hcz12_2
                  try clear hcz12_3
                  try clear hcz12_4
                  try clear hfz12_0
                  try clear hfz12_1
                  try clear hfz12_2
                  try clear hfz12_3
                  try clear hfz12_4
                  try clear hx119_0
                  try clear hx119_1
                  try clear hx119_2
                  try clear hx119_3
                  try clear hx119_4
                  try clear p119
                  try clear p2
                  try clear q119
                  obtain ⟨x6_2, HA, HK2, HO_6, BK120, HB⟩ := hrel
                  cases gk with
                  | zero => exact absurd HA.out (by simp [tree_Depth.l1])
                  | succ k2 =>
                    have H := HA.out
                    clear HA
                    simp only [tree_Depth.l1] at H
                    have HC16 := Aside0.mk H
                    clear H
                    go_upto_region 11 with (fail)
                    go_cut [42] (fun v42 wc => ∃ (kq : Nat) (x42_15 : Bool), v42 = .bool x42_15 ∧ Aside0 (tree_Depth.j2 kq ji10 x6_2 l0 (l0.length : Int) x18_1 x42_15 = some r) ∧ Aside0 (kq ≤ k2) ∧ Aside0 (Kd.R (Kd.int .i64) 3 wc w.heap.size (fun _ => True) u6 x6_2) ∧ Aside0 (wc.heap[gb120]? = some (.cells #[.int .i64 ((rd_T25 l0 x18_1).f0), .string ((rd_T25 l0 x18_1).f1), .string ((rd_T25 l0 x18_1).f2), .string ((rd_T25 l0 x18_1).f3), (.slice A119_4 ((rd_T25 l0 x18_1).f4).length c119_4)] 25 (0, 0))) ∧ Aside0 (Below w.heap.size w wc))
                    case first =>
                      have H := HC16.out
                      clear HC16
                      by_cases c17 : (x6_2.length : Int) > 0
                      · rw [if_pos c17] at H
                        have c17b0 : decide (0 < (x6_2.length : Int)) = true := decide_eq_true c17
                        have c17b1 : decide (0 < x6_2.length) = true := decide_eq_true (by omega)
                        clear c17
                        (first | rw [c17b0] | (simp only [i64_w, i32_w]; rw [c17b0]) | skip)
                        obtain ⟨ji18, hji18⟩ : ∃ j_ : Int, (wrap64 ((x6_2.length : Int) - 1)) = j_ := ⟨_, rfl⟩
                        replace H : (if 0 ≤ (ji18) then (if (ji18) < (x6_2.length : Int) then (tree_Depth.j2 k2 ji10 x6_2 l0 (l0.length : Int) x18_1 ((rd x6_2 (ji18)) == 0)) else (none)) else (none)) = some r := by first | (rw [hji18] at H; exact H) | (simp only [hji18] at H ⊢; exact H)
                        have hji18w : (IntKind.i64.wrap ((x6_2.length : Int) - 1)) = ji18 := (i64_w _).trans hji18
                        by_cases c19 : 0 ≤ (ji18)
                        · rw [if_pos c19] at H
                          have c19b0 : decide (0 ≤ (ji18)) = true := decide_eq_true c19
                          clear c19
                          by_cases c20 : (ji18) < (x6_2.length : Int)
                          · rw [if_pos c20] at H
                            have c20b0 : decide ((ji18) < (x6_2.length : Int)) = true := decide_eq_true c20
                            clear c20
                            have H' := Aside0.mk H
                            clear H
                            obtain ⟨Ao21, co21, eo21⟩ := Kd.R_slice HO_6.out
                            subst eo21
                            have p125 : 0 ≤ ((ji18) : Int) := of_decide_eq_true (by first | (with_reducible assumption) | assumption)
                            have q125 : (ji18) < (x6_2.length : Int) := of_decide_eq_true (by first | (with_reducible assumption) | assumption)
                            obtain ⟨ad125, e125, hx125_0⟩ := Kd.at_int (Kd.R_reads' HO_6.out).2.2 (ji18) p125 q125
                            cases e125
                            replace p125 := eq_true p125
                            replace q125 := eq_true q125
                            go_wp2
                            go_meet
                            case rel => exact ⟨_, (((rd x6_2 (ji18)) == 0)), (by first | rfl | (simp; done) | (simp only [← hji18] <;> (first | rfl | simp)) | (simp [*]; done)), H', ⟨by have := HK1.out; have := HK2.out; first | omega | exact Nat.le_refl _⟩, ⟨by (with_reducible repeat (first | apply Kd.R_alloc | apply Kd.R_drewN | apply Kd.R_drew)); exact HO_6.out⟩, ⟨by (with_reducible repeat (first | refine blk_drewN ?_ _ | refine blk_drew ?_ | refine blk_alloc ?_ _)); exact BK120.out⟩, ⟨by repeat (first | (with_reducible first | exact HB.out | apply below_alloc | apply pw_below_drewN | apply below_drew1 | refine below_set ?_ GE120.out) | exact HB.out)⟩⟩
                          · rw [if_neg c20] at H
                            exact absurd H (by simp)
                        · rw [if_neg c19] at H
                          exact absurd H (by simp)
                      · rw [if_neg c17] at H
                        have c17b0 : decide (0 < (x6_2.length : Int)) = false := decide_eq_false c17
                        have c17b1 : decide (0 < x6_2.length) = false := decide_eq_false (by omega)
                        clear c17
                        (first | rw [c17b0] | (simp only [i64_w, i32_w]; rw [c17b0]) | skip)
                        have H' := Aside0.mk H
                        clear H
                        obtain ⟨Ao22, co22, eo22⟩ := Kd.R_slice HO_6.out
                        subst eo22
                        go_wp2
                        go_meet
                        case rel => exact ⟨_, (false), (by first | rfl | (simp; done) | (simp [*]; done)), H', ⟨by have := HK1.out; have := HK2.out; first | omega | exact Nat.le_refl _⟩, ⟨by (with_reducible repeat (first | apply Kd.R_alloc | apply Kd.R_drewN | apply Kd.R_drew)); exact HO_6.out⟩, ⟨by (with_reducible repeat (first | refine blk_drewN ?_ _ | refine blk_drew ?_ | refine blk_alloc ?_ _)); exact BK120.out⟩, ⟨by repeat (first | (with_reducible first | exact HB.out | apply below_alloc | apply pw_below_drewN | apply below_drew1 | refine below_set ?_ GE120.out) | exact HB.out)⟩⟩
                    case rest =>
                      clear HC16
                      try clear c1
                      try clear p1
                      try clear q1
                      try clear hx1
                      try clear c2
                      try clear p2
                      try clear c3
                      try clear c5
                      try clear c5b0
                      try clear c6
                      try clear c6b0
                      try clear p6
                      try clear c7
                      try clear c7b0
                      try clear c9
                      try clear c11
                      try clear p11
                      try clear q11
                      try clear hx11
                      try clear p12
                      try clear q12
                      try clear hx12
                      try clear c17
                      try clear c17b0
                      try clear c17b1
                      try clear c19
                      try clear c19b0
                      try clear c20
                      try clear c20b0
                      try clear c21
                      try clear hcz12_0
                      try clear hcz12_1
                      try clear hcz12_2
                      try clear hcz12_3
                      try clear hcz12_4
                      try clear hfz12_0
                      try clear hfz12_1
                      try clear hfz12_2
                      try clear hfz12_3
                      try clear hfz12_4
                      try clear hx119_0
                      try clear hx119_1
                      try clear hx119_2
                      try clear hx119_3
                      try clear hx119_4
                      try clear hx125_0
                      try clear p1
                      try clear p11
                      try clear p119
                      try clear p125
                      try clear p2
                      try clear q1
                      try clear q11
                      try clear q119
                      try clear q125
                      obtain ⟨kq, x42_15, rfl, HA, HJ15, HO_6, BK120, HB⟩ := hcut
                      cases kq with
                      | zero => exact absurd HA.out (by simp [tree_Depth.j2])
                      | succ kj15 =>
                        have H := HA.out
                        clear HA
                        simp only [tree_Depth.j2] at H
                        by_cases c23 : x42_15 = true
                        · subst c23
                          have H1 : (if 0 ≤ (wrap64 ((x6_2.length : Int) - 1)) then (if (wrap64 ((x6_2.length : Int) - 1)) ≤ (x6_2.length : Int) then ((some (x6_2.take ((wrap64 ((x6_2.length : Int) - 1)) : Int).toNat : List Int)).bind fun y126 => (if (y126.length : Int) > 0 then (if 0 ≤ (wrap64 ((y126.length : Int) - 1)) then (if (wrap64 ((y126.length : Int) - 1)) < (y126.length : Int) then (tree_Depth.l1 kj15 ji10 (y126.set ((wrap64 ((y126.length : Int) - 1)) : Int).toNat (wrap64 ((rd y126 (wrap64 ((y126.length : Int) - 1))) - 1))) l0 (l0.length : Int) x18_1) else (none)) else (none)) else (tree_Depth.l1 kj15 ji10 y126 l0 (l0.length : Int) x18_1))) else (none)) else (none)) = some r := by rw [if_pos rfl] at H; exact H
                          clear H
                          have H := H1
                          clear H1
                          obtain ⟨ji24, hji24⟩ : ∃ j_ : Int, (wrap64 ((x6_2.length : Int) - 1)) = j_ := ⟨_, rfl⟩
                          replace H : (if 0 ≤ (ji24) then (if (ji24) ≤ (x6_2.length : Int) then ((some (x6_2.take ((ji24) : Int).toNat : List Int)).bind fun y126 => (if (y126.length : Int) > 0 then (if 0 ≤ (wrap64 ((y126.length : Int) - 1)) then (if (wrap64 ((y126.length : Int) - 1)) < (y126.length : Int) then (tree_Depth.l1 kj15 ji10 (y126.set ((wrap64 ((y126.length : Int) - 1)) : Int).toNat (wrap64 ((rd y126 (wrap64 ((y126.length : Int) - 1))) - 1))) l0 (l0.length : Int) x18_1) else (none)) else (none)) else (tree_Depth.l1 kj15 ji10 y126 l0 (l0.length : Int) x18_1))) else (none)) else (none)) = some r := by first | (rw [hji24] at H; exact H) | (simp only [hji24] at H ⊢; exact H)
                          have hji24w : (IntKind.i64.wrap ((x6_2.length : Int) - 1)) = ji24 := (i64_w _).trans hji24
                          by_cases c25 : 0 ≤ (ji24)
                          · rw [if_pos c25] at H
                            have c25b0 := eq_true c25
                            have c25b1 : decide (0 ≤ (ji24)) = true := decide_eq_true c25
                            clear c25
                            by_cases c26 : (ji24) ≤ (x6_2.length : Int)
                            · rw [if_pos c26] at H
                              have c26b0 := eq_true c26
                              have c26b1 : decide ((ji24) ≤ (x6_2.length : Int)) = true := decide_eq_true c26
                              clear c26
                              obtain ⟨y126, hy126⟩ : ∃ y_ : List Int, y_ = (x6_2.take ((ji24) : Int).toNat) := ⟨_, rfl⟩
                              replace H : (if (y126.length : Int) > 0 then (if 0 ≤ (wrap64 ((y126.length : Int) - 1)) then (if (wrap64 ((y126.length : Int) - 1)) < (y126.length : Int) then (tree_Depth.l1 kj15 ji10 (y126.set ((wrap64 ((y126.length : Int) - 1)) : Int).toNat (wrap64 ((rd y126 (wrap64 ((y126.length : Int) - 1))) - 1))) l0 (l0.length : Int) x18_1) else (none)) else (none)) else (tree_Depth.l1 kj15 ji10 y126 l0 (l0.length : Int) x18_1)) = some r := by first | (rw [hy126]; with_reducible exact H) | (have H2_ := (Option.bind_some _ _).symm.trans H; rw [hy126]; with_reducible exact H2_) | (have H2_ := (Option.bind_some _ _).symm.trans H; with_reducible exact H2_) | with_reducible exact H | (rw [hy126]; exact H) | exact H
                              have Ny126 := Aside0.mk hy126
                              clear hy126
                              by_cases c27 : (y126.length : Int) > 0
                              · rw [if_pos c27] at H
                                have c27b0 : decide (0 < (y126.length : Int)) = true := decide_eq_true c27
                                have c27b1 : decide (0 < y126.length) = true := decide_eq_true (by omega)
                                clear c27
                                obtain ⟨ji28, hji28⟩ : ∃ j_ : Int, (wrap64 ((y126.length : Int) - 1)) = j_ := ⟨_, rfl⟩
                                replace H : (if 0 ≤ (ji28) then (if (ji28) < (y126.length : Int) then (tree_Depth.l1 kj15 ji10 (y126.set ((ji28) : Int).toNat (wrap64 ((rd y126 (ji28)) - 1))) l0 (l0.length : Int) x18_1) else (none)) else (none)) = some r := by first | (rw [hji28] at H; exact H) | (simp only [hji28] at H ⊢; exact H)
                                have hji28w : (IntKind.i64.wrap ((y126.length : Int) - 1)) = ji28 := (i64_w _).trans hji28
                                by_cases c29 : 0 ≤ (ji28)
                                · rw [if_pos c29] at H
                                  have c29b0 : decide (0 ≤ (ji28)) = true := decide_eq_true c29
                                  clear c29
                                  by_cases c30 : (ji28) < (y126.length : Int)
                                  · rw [if_pos c30] at H
                                    have c30b0 : decide ((ji28) < (y126.length : Int)) = true := decide_eq_true c30
                                    clear c30
                                    obtain ⟨y130, hy130⟩ : ∃ y_ : List Int, y_ = (y126.set ((ji28) : Int).toNat (wrap64 ((rd y126 (ji28)) - 1))) := ⟨_, rfl⟩
                                    replace H : (tree_Depth.l1 kj15 ji10 y130 l0 (l0.length : Int) x18_1) = some r := by first | (rw [hy130]; with_reducible exact H) | (have H2_ := (Option.bind_some _ _).symm.trans H; rw [hy130]; with_reducible exact H2_) | (have H2_ := (Option.bind_some _ _).symm.trans H; with_reducible exact H2_) | with_reducible exact H | (rw [hy130]; exact H) | exact H
                                    have Ny130 := Aside0.mk hy130
                                    clear hy130
                                    have H' := Aside0.mk H
                                    clear H
                                    obtain ⟨Ao32, co32, eo32⟩ := Kd.R_slice HO_6.out
                                    subst eo32
                                    have q33 : ((ji24) : Int) ≤ ((x6_2.length : Int) : Int) := of_decide_eq_true (by first | (with_reducible assumption) | assumption)
                                    obtain ⟨i033, hi033, _, hsz33, _⟩ := info_parts info3
                                    have hcut33 := cut_to (P := Try.prog) 32 3 .i64 Try.underlying32 hi033 Ao32 x6_2.length co32 (ji24) (of_decide_eq_true (by first | (with_reducible assumption) | assumption)) q33 (Kd.R_reads' HO_6.out).2.1
                                    have hr33 := Kd.R_take (m := ((ji24) : Int).toNat) HO_6.out (by omega)
                                    have hy33 : y126.length = ((ji24) : Int).toNat := (by rw [Ny126.out, List.length_take]; omega)
                                    rw [← Ny126.out] at hr33
                                    rw [← hy33] at hr33 hcut33
                                    clear hy33 hi033 hsz33 HO_6
                                    have HO128 := Aside0.mk hr33
                                    clear hr33
                                    replace q33 := eq_true q33
                                    have p129 : 0 ≤ ((ji28) : Int) := of_decide_eq_true (by first | (with_reducible assumption) | assumption)
                                    have q129 : (ji28) < (y126.length : Int) := of_decide_eq_true (by first | (with_reducible assumption) | assumption)
                                    obtain ⟨ad129, e129, hx129_0⟩ := Kd.at_int (Kd.R_reads' HO128.out).2.2 (ji28) p129 q129
                                    cases e129
                                    replace p129 := eq_true p129
                                    replace q129 := eq_true q129
                                    have p31 : 0 ≤ ((ji28) : Int) := of_decide_eq_true (by first | (with_reducible assumption) | assumption)
                                    have q31 : ((ji28) : Int) < ((y126.length : Int) : Int) := of_decide_eq_true (by first | (with_reducible assumption) | assumption)
                                    obtain ⟨go31, co31, eo31, gb31, gl31, cl31, HG31⟩ := Kd.R_form HO128.out (by omega)
                                    (first | cases eo31 | (injection eo31 with ea_ en_ ec_; (first | subst ea_ | (injection ea_ with ea_; subst ea_)); subst ec_; clear en_))
                                    have GB31 := Aside0.mk gb31
                                    have GG31 := Aside0.mk HG31
                                    clear gb31 gl31 HG31
                                    (first | simp only [add_plain] at hx129_0 | skip)
                                    obtain ⟨hx31_0, hf31_0⟩ := Kd.R_celln 0 HO128.out ((ji28) : Int) p31 q31
                                    replace p31 := eq_true p31
                                    replace q31 := eq_true q31
                                    have HP34 := Kd.R_putg HO128.out ((ji28) : Int) (wrap64 ((rd y126 (ji28)) - 1))
                                    go_wp2_with (first | ((with_reducible refine gate_store (t := 3) (p := 58) rfl ?_); refine store_event (t := 3) (p := 58) (v := ?vo_w35) (w1 := (wc.setCell ⟨go31, ((ji28) : Int).toNat, none⟩ (.int .i64 (wrap64 ((rd y126 (ji28)) - 1))))) ?hg ?ho ?hn ?hr ?_; (case ho => rfl); (case hg => rfl); (case hn => rfl); (case hr => first | (go_simp; done) | (go_simp; rfl)); intro w35 hw; have hg : wc.grownBy w35 (some go31) := (by rw [hw]; exact HP34.2); have hp_ : Kd.R (Kd.int .i64) 3 w35 w.heap.size (fun _ => True) (.slice (some ⟨go31, 0, none⟩) y126.length co32) y130 := (by rw [hw, Ny130.out]; exact HP34.1); clear HP34; have n0_ := Aside0.mk (hp_); have n1_ := Aside0.mk (blk_grown (g := gb120) (o := .cells #[.int .i64 ((rd_T25 l0 x18_1).f0), .string ((rd_T25 l0 x18_1).f1), .string ((rd_T25 l0 x18_1).f2), .string ((rd_T25 l0 x18_1).f3), .slice A119_4 ((rd_T25 l0 x18_1).f4).length c119_4] 25 (0, 0)) (by (with_reducible repeat (first | refine blk_drewN ?_ _ | refine blk_drew ?_ | refine blk_alloc ?_ _)); exact BK120.out) hg (Kd.R_ne HO128.out BK120.out (by decide))); have n2_ := Aside0.mk ((by rw [hw]; exact below_set (HB.out) GB31.out : Below w.heap.size w w35)); clear HO128; clear BK120; clear HB; have HO128 := n0_; have BK120 := n1_; have HB := n2_; clear n0_ n1_ n2_; clear hg hw hp_))
                                    go_roundg kj15
                                    case measure => have := HK1.out; have := HK2.out; have := HJ15.out; omega
                                    case rel => exact ⟨(y130), H', ⟨by have := HK1.out; have := HK2.out; have := HJ15.out; omega⟩, ⟨by (with_reducible repeat (first | apply Kd.R_alloc | apply Kd.R_drewN | apply Kd.R_drew)); exact HO128.out⟩, ⟨by (with_reducible repeat (first | refine blk_drewN ?_ _ | refine blk_drew ?_ | refine blk_alloc ?_ _)); exact BK120.out⟩, ⟨by repeat (first | (with_reducible first | exact HB.out | apply below_alloc | apply pw_below_drewN | apply below_drew1 | refine below_set ?_ GE120.out) | exact HB.out)⟩⟩
                                  · rw [if_neg c30] at H
                                    exact absurd H (by simp)
                                · rw [if_neg c29] at H
                                  exact absurd H (by simp)
                              · rw [if_neg c27] at H
                                have c27b0 : decide (0 < (y126.length : Int)) = false := decide_eq_false c27
                                have c27b1 : decide (0 < y126.length) = false := decide_eq_false (by omega)
                                clear c27
                                have H' := Aside0.mk H
                                clear H
                                obtain ⟨Ao36, co36, eo36⟩ := Kd.R_slice HO_6.out
                                subst eo36
                                have q37 : ((ji24) : Int) ≤ ((x6_2.length : Int) : Int) := of_decide_eq_true (by first | (with_reducible assumption) | assumption)
                                obtain ⟨i037, hi037, _, hsz37, _⟩ := info_parts info3
                                have hcut37 := cut_to (P := Try.prog) 32 3 .i64 Try.underlying32 hi037 Ao36 x6_2.length co36 (ji24) (of_decide_eq_true (by first | (with_reducible assumption) | assumption)) q37 (Kd.R_reads' HO_6.out).2.1
                                have hr37 := Kd.R_take (m := ((ji24) : Int).toNat) HO_6.out (by omega)
                                have hy37 : y126.length = ((ji24) : Int).toNat := (by rw [Ny126.out, List.length_take]; omega)
                                rw [← Ny126.out] at hr37
                                rw [← hy37] at hr37 hcut37
                                clear hy37 hi037 hsz37 HO_6
                                have HO128 := Aside0.mk hr37
                                clear hr37
                                replace q37 := eq_true q37
                                go_wp2
                                go_roundg kj15
                                case measure => have := HK1.out; have := HK2.out; have := HJ15.out; omega
                                case rel => exact ⟨(y126), H', ⟨by have := HK1.out; have := HK2.out; have := HJ15.out; omega⟩, ⟨by (with_reducible repeat (first | apply Kd.R_alloc | apply Kd.R_drewN | apply Kd.R_drew)); exact HO128.out⟩, ⟨by (with_reducible repeat (first | refine blk_drewN ?_ _ | refine blk_drew ?_ | refine blk_alloc ?_ _)); exact BK120.out⟩, ⟨by repeat (first | (with_reducible first | exact HB.out | apply below_alloc | apply pw_below_drewN | apply below_drew1 | refine below_set ?_ GE120.out) | exact HB.out)⟩⟩
                            · rw [if_neg c26] at H
                              exact absurd H (by simp)
                          · rw [if_neg c25] at H
                            exact absurd H (by simp)
                        · replace c23 := Bool.eq_false_iff.mpr c23
                          subst c23
                          have H1 : (if (x6_2.length : Int) = 0 then (some ji10) else (tree_Depth.l0 kj15 ji10 x6_2 l0 (l0.length : Int) (wrap64 (x18_1 + 1)))) = some r := by rw [if_neg (show ¬ (false = true) by decide)] at H; exact H
                          clear H
                          have H := H1
                          clear H1
                          by_cases c38 : (x6_2.length : Int) = 0
                          · rw [if_pos c38] at H
                            have c38b0 : ((x6_2.length : Int) == 0) = true := beq_iff_eq.mpr c38
                            have c38b1 : ((x6_2.length : Int) != 0) = false := bne_eq_false_iff_eq.mpr c38
                            clear c38
                            obtain rfl := Option.some.inj H
                            obtain ⟨Ao39, co39, eo39⟩ := Kd.R_slice HO_6.out
                            subst eo39
                            go_wp2
                            go_ret
                            exact ⟨by first | rfl | (simp [errW_none, errW_some] <;> rfl) | (simp only [← hji10]; first | rfl | (simp [errW_none, errW_some] <;> rfl)) | (simp [*, errW_none, errW_some] <;> rfl), by repeat (first | (with_reducible first | exact HB.out | apply below_alloc | apply pw_below_drewN | apply below_drew1 | refine below_set ?_ GE120.out) | exact HB.out)⟩
                          · rw [if_neg c38] at H
                            have c38b0 : ((x6_2.length : Int) == 0) = false := beq_eq_false_iff_ne.mpr c38
                            have c38b1 : ((x6_2.length : Int) != 0) = true := bne_iff_ne.mpr c38
                            have c38b2 : ¬ (x6_2 = []) := fun h_ => c38 (by rw [h_]; rfl)
                            have H' := Aside0.mk H
                            clear H
                            obtain ⟨Ao40, co40, eo40⟩ := Kd.R_slice HO_6.out
                            subst eo40
                            go_wp2
                            go_roundg kj15
                            case measure => have := HK1.out; have := HK2.out; have := HJ15.out; omega
                            case rel => exact ⟨(ji10), (x6_2), (wrap64 (x18_1 + 1)), (by first | rfl | (simp; done) | (simp only [← hji10] <;> (first | rfl | simp)) | (simp [*]; done)), (by first | rfl | (simp; done) | (simp [*]; done)), H', ⟨by have := HK1.out; have := HK2.out; have := HJ15.out; omega⟩, ⟨by (with_reducible repeat (first | apply Kd.R_alloc | apply Kd.R_drewN | apply Kd.R_drew)); exact HO_6.out⟩, ⟨by repeat (first | (with_reducible first | exact HB.out | apply below_alloc | apply pw_below_drewN | apply below_drew1 | refine below_set ?_ GE120.out) | exact HB.out)⟩⟩
              · rw [if_neg c9] at H
                exact absurd H (by simp)
            · rw [if_neg c7] at H
              exact absurd H (by simp)
          · rw [if_neg c6] at H
            exact absurd H (by simp)
        · rw [if_neg c5] at H
          have c5b0 : decide (x18_1 < (l0.length : Int)) = false := decide_eq_false c5
          clear c5
          obtain rfl := Option.some.inj H
          go_wp2
          go_ret
          exact ⟨by first | rfl | (simp [errW_none, errW_some] <;> rfl) | (simp [*, errW_none, errW_some] <;> rfl), by repeat (first | (with_reducible first | exact HB.out | apply below_alloc | apply pw_below_drewN | apply below_drew1) | exact HB.out)⟩
  · replace c3 := Bool.eq_false_iff.mpr c3
    subst c3
    have H1 : (some 0) = some r := by rw [if_neg (show ¬ (false = true) by decide)] at H; exact H
    clear H
    have H := H1
    clear H1
    obtain rfl := Option.some.inj H
    go_enter Try.func26, Try.ntmps26
    go_wp2_with (first | ((with_reducible refine gate_callee (f := 19) rfl ?_); refine goesL_ (some 11) rfl rfl Try.func19 (by kernel_rfl) rfl #[.slice A0 l0.length c0, .int .i64 0] rfl (by (try simp only [List.map_toArray, List.map_cons, List.map_nil]); first | done | rfl | (simp only [List.length_drop, List.length_take]; rfl)) ?_; (with_reducible refine (tree_End.calls k _ _ l0 0 t117 false _ ?side1 ?side2 A2.out).mono ?_); (case side1 => repeat (first | exact HR0.out | (with_reducible refine Kd.C_alloc ?_ _) | (with_reducible refine Kd.C_drewN ?_ _) | (with_reducible refine Kd.C_drew ?_))); (case side2 => exact HC0.out); rintro e w41 ⟨rfl, hb⟩; refine ⟨_, rfl, ?_⟩; have n0_ := Aside0.mk (below_step (by repeat (first | (with_reducible first | exact HB.out | apply below_alloc | apply pw_below_drewN | apply below_drew1) | exact HB.out)) hb); clear HB; have HB := n0_; clear n0_; (try clear hb); (try clear hb2); (try clear hk); (try clear hi)))
    go_ret
    exact ⟨by first | rfl | (simp [errW_none, errW_some] <;> rfl) | (simp [*, errW_none, errW_some] <;> rfl), by repeat (first | (with_reducible first | exact HB.out | apply below_alloc | apply pw_below_drewN | apply below_drew1) | exact HB.out)⟩

end Go.Proofs.Ytdelccahgchadaa.P
