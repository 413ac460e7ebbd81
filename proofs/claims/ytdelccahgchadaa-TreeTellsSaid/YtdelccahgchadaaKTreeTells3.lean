/- What the law TreeTells rests on, part 4. -/
import Derived.Test.YtdelccahgchadaaKTreeTells2
set_option linter.unusedVariables false
set_option linter.unusedSimpArgs false
section
namespace Go.Proofs.Ytdelccahgchadaa.P
open Go.RowKit Go.Proofs.YtdelccahgchadaaW.PrintWords Go.Proofs.YtdelccahgchadaaW.PrintLast Go.Proofs.YtdelccahgchadaaW.PrintMore
attribute [local go_sem] max2_int min2_int max_two min_two max_three min_three max_four min_four   
set_option linter.unusedVariables false
set_option linter.unusedSimpArgs false
def tree_Node.f (k : Nat) (a0_0 : Int) (a0_1 : ByteArray) (a0_2 : ByteArray) (a0_3 : ByteArray) (l0_4 : List ByteArray) (l1 : List (List (S25))) : Option ((List (S25))) := (some (([(⟨a0_0, a0_1, a0_2, a0_3, l0_4⟩ : S25)] : List (S25)) : List (S25))).bind fun y198 => ((api_Node_48.f k l1).bind fun t201 => (if y198.length + t201.length < 1759218604441 then (some (y198 ++ t201)) else (none)))
theorem tree_Node.mono : ∀ a0 a1 a2 a3 a4 a5 k, LeO (tree_Node.f k a0 a1 a2 a3 a4 a5) (tree_Node.f (k + 1) a0 a1 a2 a3 a4 a5) := by
 intro a0 a1 a2 a3 a4 a5 k
 unfold tree_Node.f
 repeat' first
   | (with_reducible exact api_Node_48.mono _ _)
   | (with_reducible exact LeO.refl _)
   | (with_reducible exact LeO.none _)
   | (with_reducible refine LeO.ite ?_ ?_)
   | (with_reducible refine LeO.bind ?_ (fun _ => ?_))
   | exact api_Node_48.mono _ _
   | exact LeO.none _
   | refine LeO.ite ?_ ?_
   | refine LeO.bind ?_ (fun _ => ?_)
set_option maxHeartbeats 8000000 in
set_option maxRecDepth 100000 in
theorem tree_Node.calls (k : Nat) (a0_0 : Int) (a0_1 : ByteArray) (a0_2 : ByteArray) (a0_3 : ByteArray) (P0_4_ : Nat → Prop) (A0_4 : Option Addr) (c0_4 : Nat) (l0_4 : List ByteArray) (P1_ : Nat → Prop) (A1 : Option Addr) (c1 : Nat) (l1 : List (List (S25))) (r : List (S25)) (w : World) (hs0_4 : Kd.V Kd.string 9 w w.heap.size (fun k_ => P0_4_ k_) (.slice A0_4 l0_4.length c0_4) l0_4) (hs1 : Kd.V (Kd.slice 25 k25) 22 w w.heap.size (fun k_ => P1_ k_) (.slice A1 l1.length c1) l1) (h : tree_Node.f k a0_0 a0_1 a0_2 a0_3 l0_4 l1 = some r) :
  Calls Try.prog 32 #[.agg #[.int .i64 a0_0, .string a0_1, .string a0_2, .string a0_3, .slice A0_4 l0_4.length c0_4], .slice A1 l1.length c1] w fun e w' => ∃ v0_ : Value, e = .returned (v0_) ∧ Kd.N k25 25 w' w.heap.size (fun k_ => ((P0_4_ k_ ∨ P1_ k_) ∨ w.heap.size ≤ k_)) v0_ r ∧ Below w.heap.size w w' := by
 have hu25 := Try.underlying25
 have HO0_4 := am (show Kd.V Kd.string 9 w w.heap.size (fun k_ => ((P0_4_ k_ ∨ P1_ k_) ∨ w.heap.size ≤ k_)) (.slice A0_4 l0_4.length c0_4) l0_4 from Kd.V_mono hs0_4 (fun k_ hk => .inl (.inl hk)))
 have HO1 := am (show Kd.V (Kd.slice 25 k25) 22 w w.heap.size (fun k_ => ((P0_4_ k_ ∨ P1_ k_) ∨ w.heap.size ≤ k_)) (.slice A1 l1.length c1) l1 from Kd.V_mono hs1 (fun k_ hk => .inl (.inr hk)))
 have HB := am (Below.refl w.heap.size w)
 have H : ((some (([(⟨a0_0, a0_1, a0_2, a0_3, l0_4⟩ : S25)] : List (S25)) : List (S25))).bind fun y198 => ((api_Node_48.f k l1).bind fun t201 => (if y198.length + t201.length < 1759218604441 then (some (y198 ++ t201)) else (none)))) = some r := h
 clear h
 obtain ⟨y198, hy198⟩ : ∃ y_ : List (S25), y_ = (([(⟨a0_0, a0_1, a0_2, a0_3, l0_4⟩ : S25)] : List (S25))) := ⟨_, rfl⟩
 replace H : ((api_Node_48.f k l1).bind fun t201 => (if y198.length + t201.length < 1759218604441 then (some (y198 ++ t201)) else (none))) = some r := by first | (rw [hy198]; with_reducible exact H) | (have H2_ := (Option.bind_some _ _).symm.trans H; rw [hy198]; with_reducible exact H2_) | (have H2_ := (Option.bind_some _ _).symm.trans H; with_reducible exact H2_) | with_reducible exact H | (rw [hy198]; exact H) | exact H
 have Ny198 := am hy198
 clear hy198
 replace H := Option.bind_eq_some_iff.mp H
 obtain ⟨t201, A30, H⟩ := H
 replace H : (if y198.length + t201.length < 1759218604441 then (some (y198 ++ t201)) else (none)) = some r := H
 have A3 := am A30
 clear A30
 by_cases c4 : y198.length + t201.length < 1759218604441
 ·rw [if_pos c4] at H
  have LMc4 := am c4
  clear c4
  obtain ⟨y204, hy204⟩ : ∃ y_ : List (S25), y_ = (y198 ++ t201) := ⟨_, rfl⟩
  replace H : (some y204) = some r := by first | (rw [hy204]; with_reducible exact H) | (have H2_ := (Option.bind_some _ _).symm.trans H; rw [hy204]; with_reducible exact H2_) | (have H2_ := (Option.bind_some _ _).symm.trans H; with_reducible exact H2_) | with_reducible exact H | (rw [hy204]; exact H) | exact H
  have Ny204 := am hy204
  clear hy204
  obtain rfl := Option.some.inj H
  go_enter Try.func32, Try.ntmps32
  try go_wp2_with (first | ((with_reducible refine gate_dst (N := 2) rfl ?_); refine box_event ?hg (N := 2) ?hd (cs := #[.int .i64 a0_0, .string a0_1, .string a0_2, .string a0_3, .slice A0_4 l0_4.length c0_4]) (t := 25) ?hr ?_; (case hd => rfl); (case hg => rfl); (case hr => first | (go_simp; done) | (go_simp; rfl)); intro gb197 hg w5 hbox hb; have n0_ := am (Kd.V_below (Kd.V_elderB (by (with_reducible repeat (first | apply Kd.V_alloc | apply Kd.V_drewN | apply Kd.V_drew)); exact HO0_4.out) gb197 (Nat.le_of_eq hg.symm)) hb); have n1_ := am (Kd.V_below (Kd.V_elderB (by (with_reducible repeat (first | apply Kd.V_alloc | apply Kd.V_drewN | apply Kd.V_drew)); exact HO1.out) gb197 (Nat.le_of_eq hg.symm)) hb); have n2_ := am (below_step (by repeat (first | (with_reducible first | exact HB.out | apply lA | apply lN | apply lD) | exact HB.out)) hb); have n3_ := am (hbox); have n4_ := am ((by rw [hg]; exact (below_size (by repeat (first | (with_reducible first | exact HB.out | apply lA | apply lN | apply lD) | exact HB.out))) : w.heap.size ≤ gb197)); have n5_ := n4_; clear HO0_4; clear HO1; clear HB; have HO0_4 := n0_; have HO1 := n1_; have HB := n2_; have BK197 := n3_; have GW197 := n4_; have GE197 := n5_; clear n0_ n1_ n2_ n3_ n4_ n5_; clear hb hbox hg))
  have n0_ := am (Kd.V_drew HO0_4.out)
  have n1_ := am (Kd.V_drew HO1.out)
  have n2_ := am (bD BK197.out)
  have n3_ := am (lD HB.out)
  clear HO0_4
  clear HO1
  clear BK197
  clear HB
  have HO0_4 := n0_
  have HO1 := n1_
  have BK197 := n2_
  have HB := n3_
  clear n0_ n1_ n2_ n3_
  refine start_ (n := 6) (S := fun w' => w'.cell? ⟨gb197, 0, none⟩ = some (.int .i64 a0_0) ∧ w'.cell? ⟨gb197, 1, none⟩ = some (.string a0_1) ∧ w'.cell? ⟨gb197, 2, none⟩ = some (.string a0_2) ∧ w'.cell? ⟨gb197, 3, none⟩ = some (.string a0_3) ∧ w'.cell? ⟨gb197, 4, none⟩ = some (.slice A0_4 l0_4.length c0_4)) (ds := []) #[false, false, false, false, false, false] (by kernel_rfl) rfl rfl ⟨(blk_cell BK197.out 0).trans rfl, (blk_cell BK197.out 1).trans rfl, (blk_cell BK197.out 2).trans rfl, (blk_cell BK197.out 3).trans rfl, (blk_cell BK197.out 4).trans rfl⟩ (fun hHeld => ?_)
  generalize w5.drew = w6 at HO0_4 HO1 BK197 HB hHeld ⊢
  refine pure_ (i := 2) (N := some 7) (v := ?_) (a' := ?_) #[false, false, true, false, false, false] rfl rfl (by kernel_rfl) (fun _ _ _ h => h) (Or.inl ⟨by rfl, ?_⟩) ?_ ?_
  rotate_left
  ·intro w'
   go_simp
   with_reducible rfl
  rotate_left
  ·simp only [Act.put, zT, z0, zS, i64_w, i32_w]
   rfl
  refine take_ (i := 0) (N := some 5) (v := ?_) (a' := ?_) #[true, false, true, false, false, false] rfl rfl (by kernel_rfl) (fun _ _ _ h => h) (Or.inl ⟨by rfl, ?_⟩) hHeld ?_ ?_
  rotate_left
  ·rintro w' ⟨s0, s1, s2, s3, s4⟩
   go_simp
   with_reducible rfl
  rotate_left
  ·simp only [Act.put, zT, z0, zS, i64_w, i32_w]
   rfl
  refine join_ (σ := Value × Value) 2 #[true, true, true, true, false, false] (fun s_ => [(6, s_.1), (8, s_.2)]) (fun s_ w' => (w'.cell? ⟨gb197, 0, none⟩ = some (.int .i64 a0_0) ∧ w'.cell? ⟨gb197, 1, none⟩ = some (.string a0_1) ∧ w'.cell? ⟨gb197, 2, none⟩ = some (.string a0_2) ∧ w'.cell? ⟨gb197, 3, none⟩ = some (.string a0_3) ∧ w'.cell? ⟨gb197, 4, none⟩ = some (.slice A0_4 l0_4.length c0_4)) ∧ (Kd.V Kd.string 9 w' w.heap.size (fun k_ => ((P0_4_ k_ ∨ P1_ k_) ∨ w.heap.size ≤ k_) ∧ some k_ ≠ (s_.1 : Value).ownBlock ∧ some k_ ≠ (s_.2 : Value).ownBlock ∧ k_ ≠ gb197) (.slice A0_4 l0_4.length c0_4) l0_4) ∧ (Kd.V (Kd.slice 25 k25) 22 w' w.heap.size (fun k_ => ((P0_4_ k_ ∨ P1_ k_) ∨ w.heap.size ≤ k_) ∧ some k_ ≠ (s_.1 : Value).ownBlock ∧ some k_ ≠ (s_.2 : Value).ownBlock ∧ k_ ≠ gb197) (.slice A1 l1.length c1) l1) ∧ (Kd.N k25 25 w' w.heap.size (fun k_ => ((P0_4_ k_ ∨ P1_ k_) ∨ w.heap.size ≤ k_) ∧ some k_ ≠ (s_.2 : Value).ownBlock ∧ k_ ≠ gb197) s_.1 y198) ∧ (Kd.N k25 25 w' w.heap.size (fun k_ => ((P0_4_ k_ ∨ P1_ k_) ∨ w.heap.size ≤ k_) ∧ some k_ ≠ (s_.1 : Value).ownBlock ∧ k_ ≠ gb197) s_.2 t201) ∧ (w'.heap[gb197]? = some (.cells #[.int .i64 a0_0, .string a0_1, .string a0_2, .string a0_3, .slice A0_4 l0_4.length c0_4] 25 (0, 0))) ∧ (Below w.heap.size w w')) ?_ ?_
  rotate_left
  ·intro hCont
   refine two_ (i := 1) (j := 3) (Ni := some 6) (Nj := some 8) #[true, true, true, false, false, false] #[true, false, true, true, false, false] rfl rfl rfl rfl (by kernel_rfl) (by decide) (by decide) (fun K hK => ?_) (fun K hK => ?_)
   ·skip
    refine Kd.N_lit_step k25 _ 25 ?hg (N' := 6) ?hd (xs := ([(⟨a0_0, a0_1, a0_2, a0_3, l0_4⟩ : S25)] : List (S25))) (inner := [.int .i64 a0_0, .string a0_1, .string a0_2, .string a0_3, .slice A0_4 l0_4.length c0_4]) (ok := (fun k_ => ((P0_4_ k_ ∨ P1_ k_) ∨ w.heap.size ≤ k_) ∧ k_ ≠ gb197)) (okp := (fun k_ => ((P0_4_ k_ ∨ P1_ k_) ∨ w.heap.size ≤ k_) ∧ k_ ≠ gb197)) ?hr ?hp (fun _ hk => hk) ((show ∀ k_, w6.heap.size ≤ k_ → (fun k_ => ((P0_4_ k_ ∨ P1_ k_) ∨ w.heap.size ≤ k_) ∧ k_ ≠ gb197) k_ from fun k_ hk => ⟨(.inr (Nat.le_trans (below_size (by repeat (first | (with_reducible first | exact HB.out | apply lA | apply lN | apply lD | refine below_set ?_ GE197.out) | exact HB.out))) hk)), Kd.freshB (g := gb197) (o := .cells #[.int .i64 a0_0, .string a0_1, .string a0_2, .string a0_3, .slice A0_4 l0_4.length c0_4] 25 (0, 0)) (by (with_reducible repeat (first | refine bN ?_ _ | refine bD ?_ | refine bA ?_ _)); exact BK197.out) k_ hk⟩) _ (Nat.le_refl _)) (Below.refl _ _) (Nat.le_refl _) (by simp) ?_; (case hd => rfl); (case hg => rfl); (case hr => first | (go_simp; done) | (go_simp; rfl)); (case hp => exact (Reps.c5 (show Kd.FK k25 _ _ (⟨a0_0, a0_1, a0_2, a0_3, l0_4⟩ : S25) [.int .i64 a0_0, .string a0_1, .string a0_2, .string a0_3, .slice A0_4 l0_4.length c0_4] from (k25_mkF _ _ (⟨a0_0, a0_1, a0_2, a0_3, l0_4⟩ : S25) (Kd.V_reads' (Kd.V_mono (ok' := (fun k_ => ((P0_4_ k_ ∨ P1_ k_) ∨ w.heap.size ≤ k_) ∧ k_ ≠ gb197)) (HO0_4.out) (fun k_ hk => ⟨hk.1, hk.2⟩))).2.1 (Kd.V_F (Kd.V_mono (ok' := (fun k_ => ((P0_4_ k_ ∨ P1_ k_) ∨ w.heap.size ≤ k_) ∧ k_ ≠ gb197)) (HO0_4.out) (fun k_ hk => ⟨hk.1, hk.2⟩))))) (Reps.none _ _)))
    intro v199 w7 ho8 hb hg_ hnew_
    clear hg_ hnew_
    (first | rw [← Ny198.out] at ho8 | (simp only [Int.reduceToNat] at ho8; rw [← Ny198.out] at ho8))
    have n0_ := am (Kd.V_elder' (by (with_reducible repeat (first | apply Kd.V_alloc | apply Kd.V_drewN | apply Kd.V_drew)); exact HO0_4.out) (Kd.N_base ho8) hb)
    have n1_ := am (Kd.V_elder' (by (with_reducible repeat (first | apply Kd.V_alloc | apply Kd.V_drewN | apply Kd.V_drew)); exact HO1.out) (Kd.N_base ho8) hb)
    have n2_ := am (Kd.N_lower ho8 (below_size (by repeat (first | (with_reducible first | exact HB.out | apply lA | apply lN | apply lD | refine below_set ?_ GE197.out) | exact HB.out))))
    have n3_ := am (bB (g := gb197) (o := .cells #[.int .i64 a0_0, .string a0_1, .string a0_2, .string a0_3, .slice A0_4 l0_4.length c0_4] 25 (0, 0)) (by (with_reducible repeat (first | refine bN ?_ _ | refine bD ?_ | refine bA ?_ _)); exact BK197.out) hb)
    have n4_ := am (below_step (by repeat (first | (with_reducible first | exact HB.out | apply lA | apply lN | apply lD | refine below_set ?_ GE197.out) | exact HB.out)) hb)
    clear HO0_4
    clear HO1
    clear BK197
    clear HB
    have HO0_4 := n0_
    have HO1 := n1_
    have HO200 := n2_
    have BK197 := n3_
    have HB := n4_
    clear n0_ n1_ n2_ n3_ n4_
    clear hb ho8
    refine hK.out _ _ ⟨(blk_cell BK197.out 0).trans rfl, (blk_cell BK197.out 1).trans rfl, (blk_cell BK197.out 2).trans rfl, (blk_cell BK197.out 3).trans rfl, (blk_cell BK197.out 4).trans rfl⟩ (fun hHeld => ?_)
    clear hK K
    refine norm_ (a' := ?_) ?_ ?_
    rotate_left
    ·show Act.put _ (some 6) _ = _
     simp only [Act.put, zT, z0, zS, i64_w, i32_w]
     rfl
    refine one_ (i := 3) (N := some 8) #[true, true, true, true, false, false] rfl rfl (by kernel_rfl) (by decide) (fun K hK => ?_)
    refine goes_ Try.func48 (by kernel_rfl) rfl #[.slice A1 l1.length c1] (by rfl) rfl rfl (by (try simp only [List.map_toArray, List.map_cons, List.map_nil]); first | done | rfl | (simp only [List.length_drop, List.length_take]; rfl)) ?_
    with_reducible refine (api_Node_48.calls k (fun k_ => ((((P0_4_ k_ ∨ P1_ k_) ∨ w.heap.size ≤ k_) ∧ k_ ≠ gb197) ∧ some k_ ≠ (v199 : Value).ownBlock)) _ _ l1 t201 _ ?side1 A3.out).mono ?_
    (case side1 => exact HO1.out)
    rintro e w9 ⟨v202, rfl, ho0, hb⟩
    refine ⟨_, rfl, ?_⟩
    have n0_ := am (Kd.V_elder' (by (with_reducible repeat (first | apply Kd.V_alloc | apply Kd.V_drewN | apply Kd.V_drew)); exact HO0_4.out) (Kd.N_base ho0) hb)
    have n1_ := am (Kd.V_elder' (by (with_reducible repeat (first | apply Kd.V_alloc | apply Kd.V_drewN | apply Kd.V_drew)); exact HO1.out) (Kd.N_base ho0) hb)
    have n2_ := am (Kd.N_elder' (by (with_reducible repeat (first | apply Kd.N_alloc | apply Kd.N_drewN | apply Kd.N_drew)); exact HO200.out) (Kd.N_base ho0) hb)
    have n3_ := am (Kd.N_lower (Kd.N_mono (ok' := fun k_ => ((P0_4_ k_ ∨ P1_ k_) ∨ w.heap.size ≤ k_) ∧ some k_ ≠ (v199 : Value).ownBlock ∧ k_ ≠ gb197) ho0 (fun k_ hk_ => ⟨Or.elim hk_ (fun hs_ => hs_.1.1) (fun hn_ => (.inr (Nat.le_trans (below_size (by repeat (first | (with_reducible first | exact HB.out | apply lA | apply lN | apply lD | refine below_set ?_ GE197.out) | exact HB.out))) hn_))), Or.elim hk_ (fun hs_ => hs_.2) (fun hn_ => (Kd.fresh' (Kd.N_lt (by (with_reducible repeat (first | apply Kd.N_alloc | apply Kd.N_drewN | apply Kd.N_drew)); exact HO200.out)) k_ hn_)), Or.elim hk_ (fun hs_ => hs_.1.2) (fun hn_ => (Kd.freshB (g := gb197) (o := .cells #[.int .i64 a0_0, .string a0_1, .string a0_2, .string a0_3, .slice A0_4 l0_4.length c0_4] 25 (0, 0)) (by (with_reducible repeat (first | refine bN ?_ _ | refine bD ?_ | refine bA ?_ _)); exact BK197.out) k_ hn_))⟩)) (below_size (by repeat (first | (with_reducible first | exact HB.out | apply lA | apply lN | apply lD | refine below_set ?_ GE197.out) | exact HB.out))))
    have n4_ := am (bB (g := gb197) (o := .cells #[.int .i64 a0_0, .string a0_1, .string a0_2, .string a0_3, .slice A0_4 l0_4.length c0_4] 25 (0, 0)) (by (with_reducible repeat (first | refine bN ?_ _ | refine bD ?_ | refine bA ?_ _)); exact BK197.out) hb)
    have n5_ := am (below_step (by repeat (first | (with_reducible first | exact HB.out | apply lA | apply lN | apply lD | refine below_set ?_ GE197.out) | exact HB.out)) hb)
    clear HO0_4
    clear HO1
    clear HO200
    clear BK197
    clear HB
    have HO0_4 := n0_
    have HO1 := n1_
    have HO200 := n2_
    have HO203 := n3_
    have BK197 := n4_
    have HB := n5_
    clear n0_ n1_ n2_ n3_ n4_ n5_
    (try clear hb)
    (try clear hb2)
    (try clear hk)
    (try clear hi)
    (try clear ho0)
    refine hK.out _ _ ⟨(blk_cell BK197.out 0).trans rfl, (blk_cell BK197.out 1).trans rfl, (blk_cell BK197.out 2).trans rfl, (blk_cell BK197.out 3).trans rfl, (blk_cell BK197.out 4).trans rfl⟩ (fun hHeld => ?_)
    clear hK K
    refine norm_ (a' := ?_) ?_ ?_
    rotate_left
    ·show Act.put _ (some 8) _ = _
     simp only [Act.put, zT, z0, zS, i64_w, i32_w]
     rfl
    exact norm_ (by simp only [putAll, Act.put, zT, z0, zS]) (hCont (v199, v202) _ ⟨hHeld, (by (with_reducible repeat (first | apply Kd.V_alloc | apply Kd.V_drewN | apply Kd.V_drew)); exact Kd.V_mono HO0_4.out (fun _ hk => ⟨hk.1.1.1, ⟨hk.1.2, ⟨hk.2, hk.1.1.2⟩⟩⟩)), (by (with_reducible repeat (first | apply Kd.V_alloc | apply Kd.V_drewN | apply Kd.V_drew)); exact Kd.V_mono HO1.out (fun _ hk => ⟨hk.1.1.1, ⟨hk.1.2, ⟨hk.2, hk.1.1.2⟩⟩⟩)), (by (with_reducible repeat (first | apply Kd.N_alloc | apply Kd.N_drewN | apply Kd.N_drew)); exact Kd.N_mono HO200.out (fun _ hk => ⟨hk.1.1, ⟨hk.2, hk.1.2⟩⟩)), (by (with_reducible repeat (first | apply Kd.N_alloc | apply Kd.N_drewN | apply Kd.N_drew)); exact HO203.out), (by (with_reducible repeat (first | refine bN ?_ _ | refine bD ?_ | refine bA ?_ _)); exact BK197.out), (by repeat (first | (with_reducible first | exact HB.out | apply lA | apply lN | apply lD | refine below_set ?_ GE197.out) | exact HB.out))⟩)
   ·skip
    refine goes_ Try.func48 (by kernel_rfl) rfl #[.slice A1 l1.length c1] (by rfl) rfl rfl (by (try simp only [List.map_toArray, List.map_cons, List.map_nil]); first | done | rfl | (simp only [List.length_drop, List.length_take]; rfl)) ?_
    with_reducible refine (api_Node_48.calls k (fun k_ => (((P0_4_ k_ ∨ P1_ k_) ∨ w.heap.size ≤ k_) ∧ k_ ≠ gb197)) _ _ l1 t201 _ ?side1 A3.out).mono ?_
    (case side1 => exact HO1.out)
    rintro e w7 ⟨v202, rfl, ho0, hb⟩
    refine ⟨_, rfl, ?_⟩
    have n0_ := am (Kd.V_elder' (by (with_reducible repeat (first | apply Kd.V_alloc | apply Kd.V_drewN | apply Kd.V_drew)); exact HO0_4.out) (Kd.N_base ho0) hb)
    have n1_ := am (Kd.V_elder' (by (with_reducible repeat (first | apply Kd.V_alloc | apply Kd.V_drewN | apply Kd.V_drew)); exact HO1.out) (Kd.N_base ho0) hb)
    have n2_ := am (Kd.N_lower (Kd.N_mono (ok' := fun k_ => ((P0_4_ k_ ∨ P1_ k_) ∨ w.heap.size ≤ k_) ∧ k_ ≠ gb197) ho0 (fun k_ hk_ => ⟨Or.elim hk_ (fun hs_ => hs_.1) (fun hn_ => (.inr (Nat.le_trans (below_size (by repeat (first | (with_reducible first | exact HB.out | apply lA | apply lN | apply lD | refine below_set ?_ GE197.out) | exact HB.out))) hn_))), Or.elim hk_ (fun hs_ => hs_.2) (fun hn_ => (Kd.freshB (g := gb197) (o := .cells #[.int .i64 a0_0, .string a0_1, .string a0_2, .string a0_3, .slice A0_4 l0_4.length c0_4] 25 (0, 0)) (by (with_reducible repeat (first | refine bN ?_ _ | refine bD ?_ | refine bA ?_ _)); exact BK197.out) k_ hn_))⟩)) (below_size (by repeat (first | (with_reducible first | exact HB.out | apply lA | apply lN | apply lD | refine below_set ?_ GE197.out) | exact HB.out))))
    have n3_ := am (bB (g := gb197) (o := .cells #[.int .i64 a0_0, .string a0_1, .string a0_2, .string a0_3, .slice A0_4 l0_4.length c0_4] 25 (0, 0)) (by (with_reducible repeat (first | refine bN ?_ _ | refine bD ?_ | refine bA ?_ _)); exact BK197.out) hb)
    have n4_ := am (below_step (by repeat (first | (with_reducible first | exact HB.out | apply lA | apply lN | apply lD | refine below_set ?_ GE197.out) | exact HB.out)) hb)
    clear HO0_4
    clear HO1
    clear BK197
    clear HB
    have HO0_4 := n0_
    have HO1 := n1_
    have HO203 := n2_
    have BK197 := n3_
    have HB := n4_
    clear n0_ n1_ n2_ n3_ n4_
    (try clear hb)
    (try clear hb2)
    (try clear hk)
    (try clear hi)
    (try clear ho0)
    refine hK.out _ _ ⟨(blk_cell BK197.out 0).trans rfl, (blk_cell BK197.out 1).trans rfl, (blk_cell BK197.out 2).trans rfl, (blk_cell BK197.out 3).trans rfl, (blk_cell BK197.out 4).trans rfl⟩ (fun hHeld => ?_)
    clear hK K
    refine norm_ (a' := ?_) ?_ ?_
    rotate_left
    ·show Act.put _ (some 8) _ = _
     simp only [Act.put, zT, z0, zS, i64_w, i32_w]
     rfl
    refine one_ (i := 1) (N := some 6) #[true, true, true, true, false, false] rfl rfl (by kernel_rfl) (by decide) (fun K hK => ?_)
    refine Kd.N_lit_step k25 _ 25 ?hg (N' := 6) ?hd (xs := ([(⟨a0_0, a0_1, a0_2, a0_3, l0_4⟩ : S25)] : List (S25))) (inner := [.int .i64 a0_0, .string a0_1, .string a0_2, .string a0_3, .slice A0_4 l0_4.length c0_4]) (ok := (fun k_ => ((P0_4_ k_ ∨ P1_ k_) ∨ w.heap.size ≤ k_) ∧ some k_ ≠ (v202 : Value).ownBlock ∧ k_ ≠ gb197)) (okp := (fun k_ => ((P0_4_ k_ ∨ P1_ k_) ∨ w.heap.size ≤ k_) ∧ some k_ ≠ (v202 : Value).ownBlock ∧ k_ ≠ gb197)) ?hr ?hp (fun _ hk => hk) ((show ∀ k_, w7.heap.size ≤ k_ → (fun k_ => ((P0_4_ k_ ∨ P1_ k_) ∨ w.heap.size ≤ k_) ∧ some k_ ≠ (v202 : Value).ownBlock ∧ k_ ≠ gb197) k_ from fun k_ hk => ⟨(.inr (Nat.le_trans (below_size (by repeat (first | (with_reducible first | exact HB.out | apply lA | apply lN | apply lD | refine below_set ?_ GE197.out) | exact HB.out))) hk)), Kd.fresh' (Kd.N_lt (by (with_reducible repeat (first | apply Kd.N_alloc | apply Kd.N_drewN | apply Kd.N_drew)); exact HO203.out)) k_ hk, Kd.freshB (g := gb197) (o := .cells #[.int .i64 a0_0, .string a0_1, .string a0_2, .string a0_3, .slice A0_4 l0_4.length c0_4] 25 (0, 0)) (by (with_reducible repeat (first | refine bN ?_ _ | refine bD ?_ | refine bA ?_ _)); exact BK197.out) k_ hk⟩) _ (Nat.le_refl _)) (Below.refl _ _) (Nat.le_refl _) (by simp) ?_; (case hd => rfl); (case hg => rfl); (case hr => first | (go_simp; done) | (go_simp; rfl)); (case hp => exact (Reps.c5 (show Kd.FK k25 _ _ (⟨a0_0, a0_1, a0_2, a0_3, l0_4⟩ : S25) [.int .i64 a0_0, .string a0_1, .string a0_2, .string a0_3, .slice A0_4 l0_4.length c0_4] from (k25_mkF _ _ (⟨a0_0, a0_1, a0_2, a0_3, l0_4⟩ : S25) (Kd.V_reads' (Kd.V_mono (ok' := (fun k_ => ((P0_4_ k_ ∨ P1_ k_) ∨ w.heap.size ≤ k_) ∧ some k_ ≠ (v202 : Value).ownBlock ∧ k_ ≠ gb197)) (HO0_4.out) (fun k_ hk => ⟨hk.1.1, ⟨hk.2, hk.1.2⟩⟩))).2.1 (Kd.V_F (Kd.V_mono (ok' := (fun k_ => ((P0_4_ k_ ∨ P1_ k_) ∨ w.heap.size ≤ k_) ∧ some k_ ≠ (v202 : Value).ownBlock ∧ k_ ≠ gb197)) (HO0_4.out) (fun k_ hk => ⟨hk.1.1, ⟨hk.2, hk.1.2⟩⟩))))) (Reps.none _ _)))
    intro v199 w8 ho9 hb hg_ hnew_
    clear hg_ hnew_
    (first | rw [← Ny198.out] at ho9 | (simp only [Int.reduceToNat] at ho9; rw [← Ny198.out] at ho9))
    have n0_ := am (Kd.V_elder' (by (with_reducible repeat (first | apply Kd.V_alloc | apply Kd.V_drewN | apply Kd.V_drew)); exact HO0_4.out) (Kd.N_base ho9) hb)
    have n1_ := am (Kd.V_elder' (by (with_reducible repeat (first | apply Kd.V_alloc | apply Kd.V_drewN | apply Kd.V_drew)); exact HO1.out) (Kd.N_base ho9) hb)
    have n2_ := am (Kd.N_elder' (by (with_reducible repeat (first | apply Kd.N_alloc | apply Kd.N_drewN | apply Kd.N_drew)); exact HO203.out) (Kd.N_base ho9) hb)
    have n3_ := am (Kd.N_lower ho9 (below_size (by repeat (first | (with_reducible first | exact HB.out | apply lA | apply lN | apply lD | refine below_set ?_ GE197.out) | exact HB.out))))
    have n4_ := am (bB (g := gb197) (o := .cells #[.int .i64 a0_0, .string a0_1, .string a0_2, .string a0_3, .slice A0_4 l0_4.length c0_4] 25 (0, 0)) (by (with_reducible repeat (first | refine bN ?_ _ | refine bD ?_ | refine bA ?_ _)); exact BK197.out) hb)
    have n5_ := am (below_step (by repeat (first | (with_reducible first | exact HB.out | apply lA | apply lN | apply lD | refine below_set ?_ GE197.out) | exact HB.out)) hb)
    clear HO0_4
    clear HO1
    clear HO203
    clear BK197
    clear HB
    have HO0_4 := n0_
    have HO1 := n1_
    have HO203 := n2_
    have HO200 := n3_
    have BK197 := n4_
    have HB := n5_
    clear n0_ n1_ n2_ n3_ n4_ n5_
    clear hb ho9
    refine hK.out _ _ ⟨(blk_cell BK197.out 0).trans rfl, (blk_cell BK197.out 1).trans rfl, (blk_cell BK197.out 2).trans rfl, (blk_cell BK197.out 3).trans rfl, (blk_cell BK197.out 4).trans rfl⟩ (fun hHeld => ?_)
    clear hK K
    refine norm_ (a' := ?_) ?_ ?_
    rotate_left
    ·show Act.put _ (some 6) _ = _
     simp only [Act.put, zT, z0, zS, i64_w, i32_w]
     rfl
    exact norm_ (by simp only [putAll, Act.put, zT, z0, zS]) (hCont (v199, v202) _ ⟨hHeld, (by (with_reducible repeat (first | apply Kd.V_alloc | apply Kd.V_drewN | apply Kd.V_drew)); exact Kd.V_mono HO0_4.out (fun _ hk => ⟨hk.1.1.1, ⟨hk.2, ⟨hk.1.2, hk.1.1.2⟩⟩⟩)), (by (with_reducible repeat (first | apply Kd.V_alloc | apply Kd.V_drewN | apply Kd.V_drew)); exact Kd.V_mono HO1.out (fun _ hk => ⟨hk.1.1.1, ⟨hk.2, ⟨hk.1.2, hk.1.1.2⟩⟩⟩)), (by (with_reducible repeat (first | apply Kd.N_alloc | apply Kd.N_drewN | apply Kd.N_drew)); exact HO200.out), (by (with_reducible repeat (first | apply Kd.N_alloc | apply Kd.N_drewN | apply Kd.N_drew)); exact Kd.N_mono HO203.out (fun _ hk => ⟨hk.1.1, ⟨hk.2, hk.1.2⟩⟩)), (by (with_reducible repeat (first | refine bN ?_ _ | refine bD ?_ | refine bA ?_ _)); exact BK197.out), (by repeat (first | (with_reducible first | exact HB.out | apply lA | apply lN | apply lD | refine below_set ?_ GE197.out) | exact HB.out))⟩)
  rintro ⟨v199, v202⟩ w10 ⟨hS_, h0_, h1_, h2_, h3_, h4_, h5_⟩
  have n0_ : Aside0 (Kd.V Kd.string 9 w10 w.heap.size (fun k_ => ((P0_4_ k_ ∨ P1_ k_) ∨ w.heap.size ≤ k_) ∧ some k_ ≠ (v199 : Value).ownBlock ∧ some k_ ≠ (v202 : Value).ownBlock ∧ k_ ≠ gb197) (.slice A0_4 l0_4.length c0_4) l0_4) := ⟨h0_⟩
  have n1_ : Aside0 (Kd.V (Kd.slice 25 k25) 22 w10 w.heap.size (fun k_ => ((P0_4_ k_ ∨ P1_ k_) ∨ w.heap.size ≤ k_) ∧ some k_ ≠ (v199 : Value).ownBlock ∧ some k_ ≠ (v202 : Value).ownBlock ∧ k_ ≠ gb197) (.slice A1 l1.length c1) l1) := ⟨h1_⟩
  have n2_ : Aside0 (Kd.N k25 25 w10 w.heap.size (fun k_ => ((P0_4_ k_ ∨ P1_ k_) ∨ w.heap.size ≤ k_) ∧ some k_ ≠ (v202 : Value).ownBlock ∧ k_ ≠ gb197) v199 y198) := ⟨h2_⟩
  have n3_ : Aside0 (Kd.N k25 25 w10 w.heap.size (fun k_ => ((P0_4_ k_ ∨ P1_ k_) ∨ w.heap.size ≤ k_) ∧ some k_ ≠ (v199 : Value).ownBlock ∧ k_ ≠ gb197) v202 t201) := ⟨h3_⟩
  have n4_ : Aside0 (w10.heap[gb197]? = some (.cells #[.int .i64 a0_0, .string a0_1, .string a0_2, .string a0_3, .slice A0_4 l0_4.length c0_4] 25 (0, 0))) := ⟨h4_⟩
  have n5_ : Aside0 (Below w.heap.size w w10) := ⟨h5_⟩
  clear HO0_4
  clear HO1
  clear BK197
  clear HB
  clear h0_ h1_ h2_ h3_ h4_ h5_
  have HO0_4 := n0_
  have HO1 := n1_
  have HO200 := n2_
  have HO203 := n3_
  have BK197 := n4_
  have HB := n5_
  clear n0_ n1_ n2_ n3_ n4_ n5_
  have hHeld : w10.cell? ⟨gb197, 0, none⟩ = some (.int .i64 a0_0) ∧ w10.cell? ⟨gb197, 1, none⟩ = some (.string a0_1) ∧ w10.cell? ⟨gb197, 2, none⟩ = some (.string a0_2) ∧ w10.cell? ⟨gb197, 3, none⟩ = some (.string a0_3) ∧ w10.cell? ⟨gb197, 4, none⟩ = some (.slice A0_4 l0_4.length c0_4) := hS_
  obtain ⟨Ao12, co12, eo12⟩ := Kd.N_slice HO203.out
  (first | subst eo12 | (injection eo12 with f1_ f2_ f3_; have f4_ := f1_.symm; have f5_ := f3_.symm; clear f1_ f2_ f3_; subst f4_; subst f5_))
  refine norm_ (a' := ?_) ?_ ?_
  rotate_left
  ·simp only [putAll, Act.put, zT, z0, zS]
   rfl
  refine one_ (i := 4) (N := some 9) #[true, true, true, true, true, false] rfl rfl (by kernel_rfl) (by decide) (fun K hK => ?_)
  refine Kd.N_append_rows_step k25 (w0 := w) w.heap.size (by rfl) (.tmp 6) (.tmp 8) 22 25 (.agg #[(.int .i64 0), (.string ⟨#[]⟩), (.string ⟨#[]⟩), (.string ⟨#[]⟩), (.slice none 0 0)]) 80 rfl Try.underlying22 info25 rfl (by decide) (by omega) v199 y198 t201 _ _ _ (fun k_ => ((P0_4_ k_ ∨ P1_ k_) ∨ w.heap.size ≤ k_) ∧ k_ ≠ gb197) (fun k_ => ((fun k_ => ((P0_4_ k_ ∨ P1_ k_) ∨ w.heap.size ≤ k_) ∧ k_ ≠ gb197)) k_ ∧ some k_ ≠ (v199 : Value).ownBlock) rfl rfl ?aO ?aR (fun _ hk => hk) ?aF ?aB ?aS ?aL ?_
  (case aR => exact (by skip; exact Kd.N_F (Kd.N_mono (ok' := (fun k_ => ((fun k_ => ((P0_4_ k_ ∨ P1_ k_) ∨ w.heap.size ≤ k_) ∧ k_ ≠ gb197)) k_ ∧ some k_ ≠ (v199 : Value).ownBlock)) (HO203.out) (fun k_ hk => ⟨⟨hk.1, hk.2.2⟩, hk.2.1⟩))))
  (case aB => exact (by repeat (first | (with_reducible first | exact HB.out | apply lA | apply lN | apply lD | refine below_set ?_ GE197.out) | exact HB.out)))
  (case aF => exact (fun k_ hk => ⟨(.inr (Nat.le_trans (below_size (by repeat (first | (with_reducible first | exact HB.out | apply lA | apply lN | apply lD | refine below_set ?_ GE197.out) | exact HB.out))) hk)), Kd.freshB (g := gb197) (o := .cells #[.int .i64 a0_0, .string a0_1, .string a0_2, .string a0_3, .slice A0_4 l0_4.length c0_4] 25 (0, 0)) (by (with_reducible repeat (first | refine bN ?_ _ | refine bD ?_ | refine bA ?_ _)); exact BK197.out) k_ hk⟩))
  (case aO => exact (by (with_reducible repeat (first | apply Kd.N_alloc | apply Kd.N_drewN | apply Kd.N_drew)); exact Kd.N_mono HO200.out (fun _ hk => ⟨hk.1, hk.2.2⟩)))
  (case aS => exact (below_size (by repeat (first | (with_reducible first | exact HB.out | apply lA | apply lN | apply lD | refine below_set ?_ GE197.out) | exact HB.out))))
  (case aL => have := LMc4.out; omega)
  intro v205 w11 ho hb hg hat
  rw [← Ny204.out] at ho
  have n0_ := am (Kd.V_afterv (ok := (fun k_ => ((P0_4_ k_ ∨ P1_ k_) ∨ w.heap.size ≤ k_) ∧ some k_ ≠ (.slice Ao12 t201.length co12 : Value).ownBlock ∧ k_ ≠ gb197)) (by (with_reducible repeat (first | apply Kd.V_alloc | apply Kd.V_drewN | apply Kd.V_drew)); exact Kd.V_mono HO0_4.out (fun _ hk => ⟨⟨hk.1, ⟨hk.2.2.1, hk.2.2.2⟩⟩, hk.2.1⟩)) hg hat)
  have n1_ := am (Kd.V_afterv (ok := (fun k_ => ((P0_4_ k_ ∨ P1_ k_) ∨ w.heap.size ≤ k_) ∧ some k_ ≠ (.slice Ao12 t201.length co12 : Value).ownBlock ∧ k_ ≠ gb197)) (by (with_reducible repeat (first | apply Kd.V_alloc | apply Kd.V_drewN | apply Kd.V_drew)); exact Kd.V_mono HO1.out (fun _ hk => ⟨⟨hk.1, ⟨hk.2.2.1, hk.2.2.2⟩⟩, hk.2.1⟩)) hg hat)
  have n2_ := am (blk_grown (g := gb197) (o := .cells #[.int .i64 a0_0, .string a0_1, .string a0_2, .string a0_3, .slice A0_4 l0_4.length c0_4] 25 (0, 0)) (by (with_reducible repeat (first | refine bN ?_ _ | refine bD ?_ | refine bA ?_ _)); exact BK197.out) hg (Kd.N_away HO200.out (fun _ hk => hk.2.2)))
  have n3_ := am (Kd.N_afterv (ok := (fun k_ => ((P0_4_ k_ ∨ P1_ k_) ∨ w.heap.size ≤ k_) ∧ k_ ≠ gb197)) (by (with_reducible repeat (first | apply Kd.N_alloc | apply Kd.N_drewN | apply Kd.N_drew)); exact Kd.N_mono HO203.out (fun _ hk => ⟨⟨hk.1, hk.2.2⟩, hk.2.1⟩)) hg hat)
  have n4_ := am (hb)
  have n5_ := am (ho)
  clear HO0_4
  clear HO1
  clear BK197
  clear HO203
  clear HB
  clear HO200
  have HO0_4 := n0_
  have HO1 := n1_
  have BK197 := n2_
  have HO203 := n3_
  have HB := n4_
  have HO206 := n5_
  clear n0_ n1_ n2_ n3_ n4_ n5_
  clear ho hb hg hat
  refine hK.out _ _ ⟨(blk_cell BK197.out 0).trans rfl, (blk_cell BK197.out 1).trans rfl, (blk_cell BK197.out 2).trans rfl, (blk_cell BK197.out 3).trans rfl, (blk_cell BK197.out 4).trans rfl⟩ (fun hHeld => ?_)
  clear hK K
  refine norm_ (a' := ?_) ?_ ?_
  rotate_left
  ·show Act.put _ (some 9) _ = _
   simp only [Act.put, zT, z0, zS, i64_w, i32_w]
   rfl
  refine pure_ (i := 5) (N := some 4) (v := ?_) (a' := ?_) #[true, true, true, true, true, true] rfl rfl (by kernel_rfl) (fun _ _ _ h => h) (Or.inl ⟨by rfl, ?_⟩) ?_ ?_
  rotate_left
  ·intro w'
   go_simp
   with_reducible rfl
  rotate_left
  ·simp only [Act.put, zT, z0, zS, i64_w, i32_w]
   rfl
  refine done_ (by kernel_rfl) ?_
  try go_wp2
  go_ret
  exact ⟨_, by first | rfl | (simp [errW_none, errW_some] <;> rfl) | (simp [*, errW_none, errW_some] <;> rfl), by (with_reducible repeat (first | apply Kd.N_alloc | apply Kd.N_drewN | apply Kd.N_drew)); exact Kd.N_mono HO206.out (fun _ hk => hk.1), by repeat (first | (with_reducible first | exact HB.out | apply lA | apply lN | apply lD | refine below_set ?_ GE197.out) | exact HB.out)⟩
 ·rw [if_neg c4] at H
  exact absurd H (by simp)
def reredoslaw08_lit.f (a0 : ByteArray) : Option ((List (S25))) := some (([(⟨1, (⟨#[]⟩ : ByteArray), (⟨#[]⟩ : ByteArray), (⟨#[]⟩ : ByteArray), (([a0] : List ByteArray))⟩ : S25)] : List (S25)))
set_option maxHeartbeats 8000000 in
set_option maxRecDepth 100000 in
theorem reredoslaw08_lit.calls (a0 : ByteArray) (r : List (S25)) (w : World) (h : reredoslaw08_lit.f a0 = some r) :
  Calls Try.prog 40 #[.string a0] w fun e w' => ∃ v0_ : Value, e = .returned (v0_) ∧ Kd.N k25 25 w' w.heap.size (fun k_ => (w.heap.size ≤ k_)) v0_ r ∧ Below w.heap.size w w' := by
 have hu25 := Try.underlying25
 have HB := am (Below.refl w.heap.size w)
 have H : (some (([(⟨1, (⟨#[]⟩ : ByteArray), (⟨#[]⟩ : ByteArray), (⟨#[]⟩ : ByteArray), (([a0] : List ByteArray))⟩ : S25)] : List (S25)))) = some r := h
 clear h
 obtain ⟨y207, hy207⟩ : ∃ y_ : List ByteArray, y_ = (([a0] : List ByteArray)) := ⟨_, rfl⟩
 replace H : (some (([(⟨1, (⟨#[]⟩ : ByteArray), (⟨#[]⟩ : ByteArray), (⟨#[]⟩ : ByteArray), y207⟩ : S25)] : List (S25)))) = some r := by first | (rw [hy207]; with_reducible exact H) | (have H2_ := (Option.bind_some _ _).symm.trans H; rw [hy207]; with_reducible exact H2_) | (have H2_ := (Option.bind_some _ _).symm.trans H; with_reducible exact H2_) | with_reducible exact H | (rw [hy207]; exact H) | exact H
 have Ny207 := am hy207
 clear hy207
 obtain ⟨y210, hy210⟩ : ∃ y_ : List (S25), y_ = (([(⟨1, (⟨#[]⟩ : ByteArray), (⟨#[]⟩ : ByteArray), (⟨#[]⟩ : ByteArray), y207⟩ : S25)] : List (S25))) := ⟨_, rfl⟩
 replace H : (some y210) = some r := by first | (rw [hy210]; with_reducible exact H) | (have H2_ := (Option.bind_some _ _).symm.trans H; rw [hy210]; with_reducible exact H2_) | (have H2_ := (Option.bind_some _ _).symm.trans H; with_reducible exact H2_) | with_reducible exact H | (rw [hy210]; exact H) | exact H
 have Ny210 := am hy210
 clear hy210
 obtain rfl := Option.some.inj H
 go_enter Try.func40, Try.ntmps40
 go_wp2_with (first | ((with_reducible refine gate_dst (N := 4) rfl ?_); refine Kd.R_lit Kd.string _ 9 ?hg (N := 4) ?hd (xs := ([a0] : List ByteArray)) (inner := [.string a0]) (ok := fun _ => True) (okp := fun _ => True) ?hr ?hp (fun _ hk => hk) trivial (Below.refl _ _) (Nat.le_refl _) (by simp) ?_; (case hd => rfl); (case hg => rfl); (case hr => first | (go_simp; done) | (go_simp; rfl)); (case hp => exact (Reps.one (show Kd.M Kd.string _ _ _ a0 [.string a0] from rfl) (Reps.none _ _))); intro v208 w2 ho3 hb hg_ hnew_; clear hg_ hnew_; (first | rw [← Ny207.out] at ho3 | (simp only [Int.reduceToNat] at ho3; rw [← Ny207.out] at ho3)); have n0_ := am (Kd.R_lower (Kd.R_newM (M := fun k_ => (w.heap.size ≤ k_)) ho3 (below_size (by repeat (first | (with_reducible first | exact HB.out | apply lA | apply lN | apply lD) | exact HB.out))) (fun k_ h_ => h_)) (below_size (by repeat (first | (with_reducible first | exact HB.out | apply lA | apply lN | apply lD) | exact HB.out)))); have n1_ := am (below_step (by repeat (first | (with_reducible first | exact HB.out | apply lA | apply lN | apply lD) | exact HB.out)) hb); clear HB; have HO209 := n0_; have HB := n1_; clear n0_ n1_; clear hb ho3; obtain ⟨Ao4, co4, eo4⟩ := Kd.R_slice HO209.out; subst eo4) | ((with_reducible refine gate_dst (N := 6) rfl ?_); refine Kd.N_lit k25 _ 25 ?hg (N' := 6) ?hd (xs := ([(⟨1, (⟨#[]⟩ : ByteArray), (⟨#[]⟩ : ByteArray), (⟨#[]⟩ : ByteArray), y207⟩ : S25)] : List (S25))) (inner := [.int .i64 1, .string (⟨#[]⟩ : ByteArray), .string (⟨#[]⟩ : ByteArray), .string (⟨#[]⟩ : ByteArray), .slice Ao4 y207.length co4]) (ok := (fun k_ => (w.heap.size ≤ k_))) (okp := (fun k_ => (w.heap.size ≤ k_))) ?hr ?hp (fun _ hk => hk) ((show ∀ k_, w2.heap.size ≤ k_ → (fun k_ => (w.heap.size ≤ k_)) k_ from fun k_ hk => (Nat.le_trans (below_size (by repeat (first | (with_reducible first | exact HB.out | apply lA | apply lN | apply lD) | exact HB.out))) hk)) _ (Nat.le_refl _)) (Below.refl _ _) (Nat.le_refl _) (by simp) ?_; (case hd => rfl); (case hg => rfl); (case hr => first | (go_simp; done) | (go_simp; rfl)); (case hp => exact (Reps.c5 (show Kd.FK k25 _ _ (⟨1, (⟨#[]⟩ : ByteArray), (⟨#[]⟩ : ByteArray), (⟨#[]⟩ : ByteArray), y207⟩ : S25) [.int .i64 1, .string (⟨#[]⟩ : ByteArray), .string (⟨#[]⟩ : ByteArray), .string (⟨#[]⟩ : ByteArray), .slice Ao4 y207.length co4] from (k25_mkF _ _ (⟨1, (⟨#[]⟩ : ByteArray), (⟨#[]⟩ : ByteArray), (⟨#[]⟩ : ByteArray), y207⟩ : S25) (Kd.R_reads' (Kd.R_mono (ok' := (fun k_ => (w.heap.size ≤ k_))) (HO209.out) (fun k_ hk => hk.1))).2.1 (Kd.R_F (Kd.R_mono (ok' := (fun k_ => (w.heap.size ≤ k_))) (HO209.out) (fun k_ hk => hk.1))))) (Reps.none _ _))); intro v211 w5 ho6 hb hg_ hnew_; clear hg_ hnew_; (first | rw [← Ny210.out] at ho6 | (simp only [Int.reduceToNat] at ho6; rw [← Ny210.out] at ho6)); have n0_ := am (Kd.N_lower ho6 (below_size (by repeat (first | (with_reducible first | exact HB.out | apply lA | apply lN | apply lD) | exact HB.out)))); have n1_ := am (below_step (by repeat (first | (with_reducible first | exact HB.out | apply lA | apply lN | apply lD) | exact HB.out)) hb); clear HB; clear HO209; have HO212 := n0_; have HB := n1_; clear n0_ n1_; clear hb ho6))
 go_ret
 exact ⟨_, by first | rfl | (simp [errW_none, errW_some] <;> rfl) | (simp [*, errW_none, errW_some] <;> rfl), by (with_reducible repeat (first | apply Kd.N_alloc | apply Kd.N_drewN | apply Kd.N_drew)); exact HO212.out, by repeat (first | (with_reducible first | exact HB.out | apply lA | apply lN | apply lD) | exact HB.out)⟩
def reredoslaw08_shown.f (k : Nat)  : Option (Bool) := (reredoslaw08_lit.f (⟨#[49]⟩ : ByteArray)).bind fun t213 => ((reredoslaw08_lit.f (⟨#[50]⟩ : ByteArray)).bind fun t216 => ((tree_Node.f k 4 (⟨#[43]⟩ : ByteArray) (⟨#[]⟩ : ByteArray) (⟨#[]⟩ : ByteArray) ([] : List ByteArray) (([t213, t216] : List (List (S25))))).bind fun t222 => (if (t222.length : Int) = 3 then (if 0 < (t222.length : Int) then (if ((rd_T25 t222 0).f0) = 4 then ((tree_May.f k t222).bind fun t226 => (if t226 = true then ((tree_Depth.f k t222).bind fun t227 => (if t227 = 2 then ((tree_Under.f k t222 0).bind fun t228 => ((reredosref03_Same.f k t228 (([1, 2] : List Int))).bind fun t234 => (some t234))) else (some false))) else (some false))) else (some false)) else (none)) else (some false))))
theorem reredoslaw08_shown.mono : ∀ k, LeO (reredoslaw08_shown.f k ) (reredoslaw08_shown.f (k + 1) ) := by
 intro  k
 unfold reredoslaw08_shown.f
 repeat' first
   | (with_reducible exact reredosref03_Same.mono _ _ _)
   | (with_reducible exact tree_Depth.mono _ _)
   | (with_reducible exact tree_May.mono _ _)
   | (with_reducible exact tree_Node.mono _ _ _ _ _ _ _)
   | (with_reducible exact tree_Under.mono _ _ _)
   | (with_reducible exact LeO.refl _)
   | (with_reducible exact LeO.none _)
   | (with_reducible refine LeO.ite ?_ ?_)
   | (with_reducible refine LeO.bind ?_ (fun _ => ?_))
   | exact reredosref03_Same.mono _ _ _
   | exact tree_Depth.mono _ _
   | exact tree_May.mono _ _
   | exact tree_Node.mono _ _ _ _ _ _ _
   | exact tree_Under.mono _ _ _
   | exact LeO.none _
   | refine LeO.ite ?_ ?_
   | refine LeO.bind ?_ (fun _ => ?_)
set_option maxHeartbeats 8000000 in
set_option maxRecDepth 100000 in
theorem reredoslaw08_shown.calls (k : Nat)  (r : Bool) (w : World) (h : reredoslaw08_shown.f k  = some r) :
  Calls Try.prog 17 #[] w fun e w' => e = .returned (.bool r) ∧ Below w.heap.size w w' := by
 have hu25 := Try.underlying25
 have HB := am (Below.refl w.heap.size w)
 have H : ((reredoslaw08_lit.f (⟨#[49]⟩ : ByteArray)).bind fun t213 => ((reredoslaw08_lit.f (⟨#[50]⟩ : ByteArray)).bind fun t216 => ((tree_Node.f k 4 (⟨#[43]⟩ : ByteArray) (⟨#[]⟩ : ByteArray) (⟨#[]⟩ : ByteArray) ([] : List ByteArray) (([t213, t216] : List (List (S25))))).bind fun t222 => (if (t222.length : Int) = 3 then (if 0 < (t222.length : Int) then (if ((rd_T25 t222 0).f0) = 4 then ((tree_May.f k t222).bind fun t226 => (if t226 = true then ((tree_Depth.f k t222).bind fun t227 => (if t227 = 2 then ((tree_Under.f k t222 0).bind fun t228 => ((reredosref03_Same.f k t228 (([1, 2] : List Int))).bind fun t234 => (some t234))) else (some false))) else (some false))) else (some false)) else (none)) else (some false))))) = some r := h
 clear h
 replace H := Option.bind_eq_some_iff.mp H
 obtain ⟨t213, A10, H⟩ := H
 replace H : ((reredoslaw08_lit.f (⟨#[50]⟩ : ByteArray)).bind fun t216 => ((tree_Node.f k 4 (⟨#[43]⟩ : ByteArray) (⟨#[]⟩ : ByteArray) (⟨#[]⟩ : ByteArray) ([] : List ByteArray) (([t213, t216] : List (List (S25))))).bind fun t222 => (if (t222.length : Int) = 3 then (if 0 < (t222.length : Int) then (if ((rd_T25 t222 0).f0) = 4 then ((tree_May.f k t222).bind fun t226 => (if t226 = true then ((tree_Depth.f k t222).bind fun t227 => (if t227 = 2 then ((tree_Under.f k t222 0).bind fun t228 => ((reredosref03_Same.f k t228 (([1, 2] : List Int))).bind fun t234 => (some t234))) else (some false))) else (some false))) else (some false)) else (none)) else (some false)))) = some r := H
 have A1 := am A10
 clear A10
 replace H := Option.bind_eq_some_iff.mp H
 obtain ⟨t216, A20, H⟩ := H
 replace H : ((tree_Node.f k 4 (⟨#[43]⟩ : ByteArray) (⟨#[]⟩ : ByteArray) (⟨#[]⟩ : ByteArray) ([] : List ByteArray) (([t213, t216] : List (List (S25))))).bind fun t222 => (if (t222.length : Int) = 3 then (if 0 < (t222.length : Int) then (if ((rd_T25 t222 0).f0) = 4 then ((tree_May.f k t222).bind fun t226 => (if t226 = true then ((tree_Depth.f k t222).bind fun t227 => (if t227 = 2 then ((tree_Under.f k t222 0).bind fun t228 => ((reredosref03_Same.f k t228 (([1, 2] : List Int))).bind fun t234 => (some t234))) else (some false))) else (some false))) else (some false)) else (none)) else (some false))) = some r := H
 have A2 := am A20
 clear A20
 obtain ⟨y219, hy219⟩ : ∃ y_ : List (List (S25)), y_ = (([t213, t216] : List (List (S25)))) := ⟨_, rfl⟩
 replace H : ((tree_Node.f k 4 (⟨#[43]⟩ : ByteArray) (⟨#[]⟩ : ByteArray) (⟨#[]⟩ : ByteArray) ([] : List ByteArray) y219).bind fun t222 => (if (t222.length : Int) = 3 then (if 0 < (t222.length : Int) then (if ((rd_T25 t222 0).f0) = 4 then ((tree_May.f k t222).bind fun t226 => (if t226 = true then ((tree_Depth.f k t222).bind fun t227 => (if t227 = 2 then ((tree_Under.f k t222 0).bind fun t228 => ((reredosref03_Same.f k t228 (([1, 2] : List Int))).bind fun t234 => (some t234))) else (some false))) else (some false))) else (some false)) else (none)) else (some false))) = some r := by first | (rw [hy219]; with_reducible exact H) | (have H2_ := (Option.bind_some _ _).symm.trans H; rw [hy219]; with_reducible exact H2_) | (have H2_ := (Option.bind_some _ _).symm.trans H; with_reducible exact H2_) | with_reducible exact H | (rw [hy219]; exact H) | exact H
 have Ny219 := am hy219
 clear hy219
 replace H := Option.bind_eq_some_iff.mp H
 obtain ⟨t222, A30, H⟩ := H
 replace H : (if (t222.length : Int) = 3 then (if 0 < (t222.length : Int) then (if ((rd_T25 t222 0).f0) = 4 then ((tree_May.f k t222).bind fun t226 => (if t226 = true then ((tree_Depth.f k t222).bind fun t227 => (if t227 = 2 then ((tree_Under.f k t222 0).bind fun t228 => ((reredosref03_Same.f k t228 (([1, 2] : List Int))).bind fun t234 => (some t234))) else (some false))) else (some false))) else (some false)) else (none)) else (some false)) = some r := H
 have A3 := am A30
 clear A30
 by_cases c4 : (t222.length : Int) = 3
 ·rw [if_pos c4] at H
  have c4b0 : ((t222.length : Int) == 3) = true := beq_iff_eq.mpr c4
  have c4b1 : ((t222.length : Int) != 3) = false := bne_eq_false_iff_eq.mpr c4
  clear c4
  by_cases c5 : 0 < (t222.length : Int)
  ·rw [if_pos c5] at H
   have c5b0 : decide (0 < (t222.length : Int)) = true := decide_eq_true c5
   have c5b1 : decide (0 < t222.length) = true := decide_eq_true (by omega)
   clear c5
   by_cases c6 : ((rd_T25 t222 0).f0) = 4
   ·rw [if_pos c6] at H
    have c6b0 : (((rd_T25 t222 0).f0) == 4) = true := beq_iff_eq.mpr c6
    have c6b1 : (((rd_T25 t222 0).f0) != 4) = false := bne_eq_false_iff_eq.mpr c6
    clear c6
    replace H := Option.bind_eq_some_iff.mp H
    obtain ⟨t226, A70, H⟩ := H
    replace H : (if t226 = true then ((tree_Depth.f k t222).bind fun t227 => (if t227 = 2 then ((tree_Under.f k t222 0).bind fun t228 => ((reredosref03_Same.f k t228 (([1, 2] : List Int))).bind fun t234 => (some t234))) else (some false))) else (some false)) = some r := H
    have A7 := am A70
    clear A70
    by_cases c8 : t226 = true
    ·subst c8
     have H1 : ((tree_Depth.f k t222).bind fun t227 => (if t227 = 2 then ((tree_Under.f k t222 0).bind fun t228 => ((reredosref03_Same.f k t228 (([1, 2] : List Int))).bind fun t234 => (some t234))) else (some false))) = some r := by rw [if_pos rfl] at H; exact H
     clear H
     have H := H1
     clear H1
     replace H := Option.bind_eq_some_iff.mp H
     obtain ⟨t227, A90, H⟩ := H
     replace H : (if t227 = 2 then ((tree_Under.f k t222 0).bind fun t228 => ((reredosref03_Same.f k t228 (([1, 2] : List Int))).bind fun t234 => (some t234))) else (some false)) = some r := H
     have A9 := am A90
     clear A90
     by_cases c10 : t227 = 2
     ·rw [if_pos c10] at H
      have c10b0 : (t227 == 2) = true := beq_iff_eq.mpr c10
      have c10b1 : (t227 != 2) = false := bne_eq_false_iff_eq.mpr c10
      clear c10
      replace H := Option.bind_eq_some_iff.mp H
      obtain ⟨t228, A110, H⟩ := H
      replace H : ((reredosref03_Same.f k t228 (([1, 2] : List Int))).bind fun t234 => (some t234)) = some r := H
      have A11 := am A110
      clear A110
      obtain ⟨y231, hy231⟩ : ∃ y_ : List Int, y_ = (([1, 2] : List Int)) := ⟨_, rfl⟩
      replace H : ((reredosref03_Same.f k t228 y231).bind fun t234 => (some t234)) = some r := by first | (rw [hy231]; with_reducible exact H) | (have H2_ := (Option.bind_some _ _).symm.trans H; rw [hy231]; with_reducible exact H2_) | (have H2_ := (Option.bind_some _ _).symm.trans H; with_reducible exact H2_) | with_reducible exact H | (rw [hy231]; exact H) | exact H
      have Ny231 := am hy231
      clear hy231
      replace H := Option.bind_eq_some_iff.mp H
      obtain ⟨t234, A120, H⟩ := H
      replace H : (some t234) = some r := H
      have A12 := am A120
      clear A120
      obtain rfl := Option.some.inj H
      go_enter Try.func17, Try.ntmps17
      go_wp2_with (first | ((with_reducible refine gate_callee (f := 40) rfl ?_); refine goesL_ (some 3) rfl rfl Try.func40 (by kernel_rfl) rfl #[.string (⟨#[49]⟩ : ByteArray)] rfl (by (try simp only [List.map_toArray, List.map_cons, List.map_nil]); first | done | rfl | (simp only [List.length_drop, List.length_take]; rfl)) ?_; (with_reducible refine (reredoslaw08_lit.calls (⟨#[49]⟩ : ByteArray) t213 _ A1.out).mono ?_); rintro e w13 ⟨v214, rfl, ho0, hb⟩; refine ⟨_, rfl, ?_⟩; have n0_ := am (Kd.N_lower (Kd.N_mono (ok' := fun k_ => True) ho0 (fun k_ hk_ => trivial)) (below_size (by repeat (first | (with_reducible first | exact HB.out | apply lA | apply lN | apply lD) | exact HB.out)))); have n1_ := am (below_step (by repeat (first | (with_reducible first | exact HB.out | apply lA | apply lN | apply lD) | exact HB.out)) hb); clear HB; have HO215 := n0_; have HB := n1_; clear n0_ n1_; (try clear hb); (try clear hb2); (try clear hk); (try clear hi); (try clear ho0)) | ((with_reducible refine gate_callee (f := 40) rfl ?_); refine goesL_ (some 4) rfl rfl Try.func40 (by kernel_rfl) rfl #[.string (⟨#[50]⟩ : ByteArray)] rfl (by (try simp only [List.map_toArray, List.map_cons, List.map_nil]); first | done | rfl | (simp only [List.length_drop, List.length_take]; rfl)) ?_; (with_reducible refine (reredoslaw08_lit.calls (⟨#[50]⟩ : ByteArray) t216 _ A2.out).mono ?_); rintro e w14 ⟨v217, rfl, ho0, hb⟩; refine ⟨_, rfl, ?_⟩; have n0_ := am (Kd.N_elder' (by (with_reducible repeat (first | apply Kd.N_alloc | apply Kd.N_drewN | apply Kd.N_drew)); exact HO215.out) (Kd.N_base ho0) hb); have n1_ := am (Kd.N_lower (Kd.N_mono (ok' := fun k_ => some k_ ≠ (v214 : Value).ownBlock) ho0 (fun k_ hk_ => (Kd.fresh' (Kd.N_lt (by (with_reducible repeat (first | apply Kd.N_alloc | apply Kd.N_drewN | apply Kd.N_drew)); exact HO215.out)) k_ hk_))) (below_size (by repeat (first | (with_reducible first | exact HB.out | apply lA | apply lN | apply lD) | exact HB.out)))); have n2_ := am (below_step (by repeat (first | (with_reducible first | exact HB.out | apply lA | apply lN | apply lD) | exact HB.out)) hb); clear HO215; clear HB; have HO215 := n0_; have HO218 := n1_; have HB := n2_; clear n0_ n1_ n2_; (try clear hb); (try clear hb2); (try clear hk); (try clear hi); (try clear ho0); obtain ⟨Ao15, co15, eo15⟩ := Kd.N_slice HO215.out; subst eo15; obtain ⟨Ao16, co16, eo16⟩ := Kd.N_slice HO218.out; subst eo16) | ((with_reducible refine gate_dst (N := 5) rfl ?_); (try (refine gate_guard (by rfl) ?_; dsimp only)); refine Kd.N_lit (Kd.slice 25 k25) _ 22 ?hg (N' := 5) ?hd (xs := ([t213, t216] : List (List (S25)))) (inner := [.slice Ao15 t213.length co15, .slice Ao16 t216.length co16]) (ok := (fun _ => True)) (okp := (fun _ => True)) ?hr ?hp (fun _ hk => hk) ((show ∀ k_, w14.heap.size ≤ k_ → (fun _ => True) k_ from fun k_ hk => trivial) _ (Nat.le_refl _)) (Below.refl _ _) (Nat.le_refl _) (by simp) ?_; (case hd => rfl); (case hg => rfl); (case hr => first | (go_simp; done) | (go_simp; rfl)); (case hp => exact (Reps.one (show Kd.FK (Kd.slice 25 k25) _ _ t213 [.slice Ao15 t213.length co15] from (Kd.FK_slice_mk (Kd.N_reads' (Kd.N_mono (ok' := (fun _ => True)) (HO215.out) (fun k_ hk => trivial))).2.1 (Kd.N_F (Kd.N_mono (ok' := (fun _ => True)) (HO215.out) (fun k_ hk => trivial))))) (Reps.one (show Kd.FK (Kd.slice 25 k25) _ _ t216 [.slice Ao16 t216.length co16] from (Kd.FK_slice_mk (Kd.N_reads' (Kd.N_mono (ok' := (fun _ => True)) (HO218.out) (fun k_ hk => trivial))).2.1 (Kd.N_F (Kd.N_mono (ok' := (fun _ => True)) (HO218.out) (fun k_ hk => trivial))))) (Reps.none _ _)))); intro v220 w17 ho18 hb hg_ hnew_; clear hg_ hnew_; (first | rw [← Ny219.out] at ho18 | (simp only [Int.reduceToNat] at ho18; rw [← Ny219.out] at ho18)); have n0_ := am (Kd.N_lower ho18 (below_size (by repeat (first | (with_reducible first | exact HB.out | apply lA | apply lN | apply lD) | exact HB.out)))); have n1_ := am (below_step (by repeat (first | (with_reducible first | exact HB.out | apply lA | apply lN | apply lD) | exact HB.out)) hb); clear HB; clear HO215; clear HO218; have HO221 := n0_; have HB := n1_; clear n0_ n1_; clear hb ho18; obtain ⟨Ao19, co19, eo19⟩ := Kd.N_slice HO221.out; subst eo19) | ((with_reducible refine gate_callee (f := 32) rfl ?_); refine goesL_ (some 6) rfl rfl Try.func32 (by kernel_rfl) rfl #[.agg #[.int .i64 4, .string (⟨#[43]⟩ : ByteArray), .string (⟨#[]⟩ : ByteArray), .string (⟨#[]⟩ : ByteArray), .slice none 0 0], .slice Ao19 y219.length co19] rfl (by (try simp only [List.map_toArray, List.map_cons, List.map_nil]); first | done | rfl | (simp only [List.length_drop, List.length_take]; rfl)) ?_; (refine (tree_Node.calls k 4 (⟨#[43]⟩ : ByteArray) (⟨#[]⟩ : ByteArray) (⟨#[]⟩ : ByteArray) (fun k_ => False) _ _ ([] : List ByteArray) (fun k_ => True) _ _ y219 t222 _ ?side1 ?side2 A3.out).mono ?_); (case side1 => exact Kd.V_nil _ _ _ _ _); (case side2 => exact Kd.N_V (HO221.out)); rintro e w20 ⟨v223, rfl, ho0, hb⟩; refine ⟨_, rfl, ?_⟩; have n0_ := am (Kd.N_elder' (by (with_reducible repeat (first | apply Kd.N_alloc | apply Kd.N_drewN | apply Kd.N_drew)); exact HO221.out) (Kd.N_base ho0) hb); have n1_ := am (Kd.N_lower (Kd.N_mono (ok' := fun k_ => True) ho0 (fun k_ hk_ => trivial)) (below_size (by repeat (first | (with_reducible first | exact HB.out | apply lA | apply lN | apply lD) | exact HB.out)))); have n2_ := am (below_step (by repeat (first | (with_reducible first | exact HB.out | apply lA | apply lN | apply lD) | exact HB.out)) hb); clear HO221; clear HB; have HO221 := n0_; have HO224 := n1_; have HB := n2_; clear n0_ n1_ n2_; (try clear hb); (try clear hb2); (try clear hk); (try clear hi); (try clear ho0); obtain ⟨Ao21, co21, eo21⟩ := Kd.N_slice HO224.out; subst eo21; have p225 : 0 ≤ (0 : Int) := (by omega); have q225 : 0 < (t222.length : Int) := of_decide_eq_true (by first | (with_reducible assumption) | assumption); obtain ⟨ad225, A225_4, c225_4, e225, hx225_0, hx225_1, hx225_2, hx225_3, hx225_4, hl225_4, hi225_4⟩ := at_T25 (Kd.N_reads' HO224.out).2.2 0 p225 q225; cases e225; obtain ⟨ce225, hce225, hMe225, hcc225⟩ := Kd.N_get HO224.out z25 0 p225 (by first | exact q225 | exact of_decide_eq_true (by first | (with_reducible assumption) | assumption) | (have e_ := (Kd.N_reads' HO224.out).1; omega)); obtain ⟨ua225_4, uc225_4, rfl, ul225_4, ge225_4⟩ := k25_openF hMe225; have hv225_4 := hcc225 4 _ rfl; rw [add_field _ _ 4 (by omega)] at hv225_4; replace hv225_4 := Option.some.inj (hv225_4.symm.trans hx225_4); injection hv225_4 with hva_ hvn_ hvc_; rw [hva_] at ge225_4; rw [hvc_] at ul225_4; have HL225_4 := am (show Kd.V Kd.string 9 _ w.heap.size _ _ ((rd_T25 t222 0).f4) from Kd.V_mk ul225_4 ge225_4); clear hva_ hvn_ hvc_ ge225_4 ul225_4; clear hcc225 hce225; have qi225 : (0 < t222.length) = True := eq_true (by omega); (try rw [show ((0 : Int)).toNat = 0 from rfl] at hx225_0); (try rw [show 0 * 5 = 0 from rfl] at hx225_0); (try rw [Addr.add_zero'] at hx225_0); (try rw [show ((0 : Int)).toNat = 0 from rfl] at hx225_1); (try rw [show 0 * 5 = 0 from rfl] at hx225_1); (try rw [Addr.add_zero'] at hx225_1); (try rw [show ((0 : Int)).toNat = 0 from rfl] at hx225_2); (try rw [show 0 * 5 = 0 from rfl] at hx225_2); (try rw [Addr.add_zero'] at hx225_2); (try rw [show ((0 : Int)).toNat = 0 from rfl] at hx225_3); (try rw [show 0 * 5 = 0 from rfl] at hx225_3); (try rw [Addr.add_zero'] at hx225_3); (try rw [show ((0 : Int)).toNat = 0 from rfl] at hx225_4); (try rw [show 0 * 5 = 0 from rfl] at hx225_4); (try rw [Addr.add_zero'] at hx225_4); have HR225_4 := am hi225_4; have HC225_4 := am hl225_4; clear hi225_4 hl225_4; replace p225 := eq_true p225; replace q225 := eq_true q225) | (go_at_call 28; (with_reducible refine (tree_May.calls k _ _ t222 true _ ?side1 ?side2 A7.out).mono ?_); (case side1 => repeat (first | exact (Kd.N_reads' HO224.out).2.2 | (with_reducible refine Kd.C_alloc ?_ _) | (with_reducible refine Kd.C_drewN ?_ _) | (with_reducible refine Kd.C_drew ?_))); (case side2 => exact (Kd.N_reads' HO224.out).2.1); rintro e w22 ⟨rfl, hb⟩; have n0_ := am (Kd.N_below (by (with_reducible repeat (first | apply Kd.N_alloc | apply Kd.N_drewN | apply Kd.N_drew)); exact HO221.out) hb); have n1_ := am (Kd.N_below (by (with_reducible repeat (first | apply Kd.N_alloc | apply Kd.N_drewN | apply Kd.N_drew)); exact HO224.out) hb); have n2_ := am (Kd.V_below (by (with_reducible repeat (first | apply Kd.V_alloc | apply Kd.V_drewN | apply Kd.V_drew)); exact HL225_4.out) hb); have n3_ := am (Kd.C_below (by repeat (first | (with_reducible exact HR225_4.out) | (with_reducible refine Kd.C_alloc ?_ _) | (with_reducible refine Kd.C_drewN ?_ _) | (with_reducible refine Kd.C_drew ?_) | exact HR225_4.out)) hb); have n4_ := am (below_step (by repeat (first | (with_reducible first | exact HB.out | apply lA | apply lN | apply lD) | exact HB.out)) hb); clear HO221; clear HO224; clear HL225_4; clear HR225_4; clear HB; have HO221 := n0_; have HO224 := n1_; have HL225_4 := n2_; have HR225_4 := n3_; have HB := n4_; clear n0_ n1_ n2_ n3_ n4_; (try clear hb); (try clear hb2); (try clear hk); (try clear hi)) | (go_at_call 26; (with_reducible refine (tree_Depth.calls k _ _ t222 t227 _ ?side1 ?side2 A9.out).mono ?_); (case side1 => repeat (first | exact (Kd.N_reads' HO224.out).2.2 | (with_reducible refine Kd.C_alloc ?_ _) | (with_reducible refine Kd.C_drewN ?_ _) | (with_reducible refine Kd.C_drew ?_))); (case side2 => exact (Kd.N_reads' HO224.out).2.1); rintro e w23 ⟨rfl, hb⟩; have n0_ := am (Kd.N_below (by (with_reducible repeat (first | apply Kd.N_alloc | apply Kd.N_drewN | apply Kd.N_drew)); exact HO221.out) hb); have n1_ := am (Kd.N_below (by (with_reducible repeat (first | apply Kd.N_alloc | apply Kd.N_drewN | apply Kd.N_drew)); exact HO224.out) hb); have n2_ := am (Kd.V_below (by (with_reducible repeat (first | apply Kd.V_alloc | apply Kd.V_drewN | apply Kd.V_drew)); exact HL225_4.out) hb); have n3_ := am (Kd.C_below (by repeat (first | (with_reducible exact HR225_4.out) | (with_reducible refine Kd.C_alloc ?_ _) | (with_reducible refine Kd.C_drewN ?_ _) | (with_reducible refine Kd.C_drew ?_) | exact HR225_4.out)) hb); have n4_ := am (below_step (by repeat (first | (with_reducible first | exact HB.out | apply lA | apply lN | apply lD) | exact HB.out)) hb); clear HO221; clear HO224; clear HL225_4; clear HR225_4; clear HB; have HO221 := n0_; have HO224 := n1_; have HL225_4 := n2_; have HR225_4 := n3_; have HB := n4_; clear n0_ n1_ n2_ n3_ n4_; (try clear hb); (try clear hb2); (try clear hk); (try clear hi)) | (go_at_call 24; (with_reducible refine (tree_Under.calls k _ _ t222 0 t228 _ ?side1 ?side2 A11.out).mono ?_); (case side1 => repeat (first | exact (Kd.N_reads' HO224.out).2.2 | (with_reducible refine Kd.C_alloc ?_ _) | (with_reducible refine Kd.C_drewN ?_ _) | (with_reducible refine Kd.C_drew ?_))); (case side2 => exact (Kd.N_reads' HO224.out).2.1); rintro e w24 ⟨v229, rfl, ho0, hb⟩; have n0_ := am (Kd.N_elder' (by (with_reducible repeat (first | apply Kd.N_alloc | apply Kd.N_drewN | apply Kd.N_drew)); exact HO221.out) (Kd.R_base ho0) hb); have n1_ := am (Kd.N_elder' (by (with_reducible repeat (first | apply Kd.N_alloc | apply Kd.N_drewN | apply Kd.N_drew)); exact HO224.out) (Kd.R_base ho0) hb); have n2_ := am (Kd.V_elder' (by (with_reducible repeat (first | apply Kd.V_alloc | apply Kd.V_drewN | apply Kd.V_drew)); exact HL225_4.out) (Kd.R_base ho0) hb); have n3_ := am (Kd.R_lower ho0 (below_size (by repeat (first | (with_reducible first | exact HB.out | apply lA | apply lN | apply lD) | exact HB.out)))); have n4_ := am (Kd.C_below (by repeat (first | (with_reducible exact HR225_4.out) | (with_reducible refine Kd.C_alloc ?_ _) | (with_reducible refine Kd.C_drewN ?_ _) | (with_reducible refine Kd.C_drew ?_) | exact HR225_4.out)) hb); have n5_ := am (below_step (by repeat (first | (with_reducible first | exact HB.out | apply lA | apply lN | apply lD) | exact HB.out)) hb); clear HO221; clear HO224; clear HL225_4; clear HR225_4; clear HB; have HO221 := n0_; have HO224 := n1_; have HL225_4 := n2_; have HO230 := n3_; have HR225_4 := n4_; have HB := n5_; clear n0_ n1_ n2_ n3_ n4_ n5_; (try clear hb); (try clear hb2); (try clear hk); (try clear hi); (try clear ho0)) | ((with_reducible refine gate_dst (N := 29) rfl ?_); (try (refine gate_guard (by rfl) ?_; dsimp only)); refine Kd.R_lit (Kd.int .i64) _ 3 ?hg (N := 29) ?hd (xs := ([1, 2] : List Int)) (inner := [.int .i64 1, .int .i64 2]) (ok := fun _ => True) (okp := fun _ => True) ?hr ?hp (fun _ hk => hk) trivial (Below.refl _ _) (Nat.le_refl _) (by simp) ?_; (case hd => rfl); (case hg => rfl); (case hr => first | (go_simp; done) | (go_simp; rfl)); (case hp => exact (Reps.one (show Kd.M (Kd.int .i64) _ _ _ 1 [.int .i64 1] from rfl) (Reps.one (show Kd.M (Kd.int .i64) _ _ _ 2 [.int .i64 2] from rfl) (Reps.none _ _)))); intro v232 w25 ho26 hb hg_ hnew_; clear hg_ hnew_; (first | rw [← Ny231.out] at ho26 | (simp only [Int.reduceToNat] at ho26; rw [← Ny231.out] at ho26)); have n0_ := am (Kd.N_elder' (by (with_reducible repeat (first | apply Kd.N_alloc | apply Kd.N_drewN | apply Kd.N_drew)); exact HO221.out) (Kd.R_base ho26) hb); have n1_ := am (Kd.N_elder' (by (with_reducible repeat (first | apply Kd.N_alloc | apply Kd.N_drewN | apply Kd.N_drew)); exact HO224.out) (Kd.R_base ho26) hb); have n2_ := am (Kd.V_elder' (by (with_reducible repeat (first | apply Kd.V_alloc | apply Kd.V_drewN | apply Kd.V_drew)); exact HL225_4.out) (Kd.R_base ho26) hb); have n3_ := am (Kd.R_elder' (by (with_reducible repeat (first | apply Kd.R_alloc | apply Kd.R_drewN | apply Kd.R_drew)); exact HO230.out) (Kd.R_base ho26) hb); have n4_ := am (Kd.R_lower (Kd.R_new' ho26 (Kd.R_lt (by (with_reducible repeat (first | apply Kd.R_alloc | apply Kd.R_drewN | apply Kd.R_drew)); exact HO230.out))) (below_size (by repeat (first | (with_reducible first | exact HB.out | apply lA | apply lN | apply lD) | exact HB.out)))); have n5_ := am (Kd.C_below (by repeat (first | (with_reducible exact HR225_4.out) | (with_reducible refine Kd.C_alloc ?_ _) | (with_reducible refine Kd.C_drewN ?_ _) | (with_reducible refine Kd.C_drew ?_) | exact HR225_4.out)) hb); have n6_ := am (below_step (by repeat (first | (with_reducible first | exact HB.out | apply lA | apply lN | apply lD) | exact HB.out)) hb); clear HO221; clear HO224; clear HL225_4; clear HO230; clear HR225_4; clear HB; have HO221 := n0_; have HO224 := n1_; have HL225_4 := n2_; have HO230 := n3_; have HO233 := n4_; have HR225_4 := n5_; have HB := n6_; clear n0_ n1_ n2_ n3_ n4_ n5_ n6_; clear hb ho26; obtain ⟨Ao27, co27, eo27⟩ := Kd.R_slice HO230.out; subst eo27; obtain ⟨Ao28, co28, eo28⟩ := Kd.R_slice HO233.out; subst eo28) | (go_at_call 23; (with_reducible refine (reredosref03_Same.calls k _ _ t228 _ _ y231 t234 _ ?side1 ?side2 ?side3 ?side4 A12.out).mono ?_); (case side1 => repeat (first | exact (Kd.R_reads' HO230.out).2.2 | (with_reducible refine Kd.C_alloc ?_ _) | (with_reducible refine Kd.C_drewN ?_ _) | (with_reducible refine Kd.C_drew ?_))); (case side2 => exact (Kd.R_reads' HO230.out).2.1); (case side3 => repeat (first | exact (Kd.R_reads' HO233.out).2.2 | (with_reducible refine Kd.C_alloc ?_ _) | (with_reducible refine Kd.C_drewN ?_ _) | (with_reducible refine Kd.C_drew ?_))); (case side4 => exact (Kd.R_reads' HO233.out).2.1); rintro e w' ⟨rfl, ⟨nd, rfl⟩⟩))
      go_ret
      exact ⟨by first | rfl | (simp [errW_none, errW_some] <;> rfl) | (simp [*, errW_none, errW_some] <;> rfl), by repeat (first | (with_reducible first | exact HB.out | apply lA | apply lN | apply lD) | exact HB.out)⟩
     ·rw [if_neg c10] at H
      have c10b0 : (t227 == 2) = false := beq_eq_false_iff_ne.mpr c10
      have c10b1 : (t227 != 2) = true := bne_iff_ne.mpr c10
      obtain rfl := Option.some.inj H
      go_enter Try.func17, Try.ntmps17
      go_wp2_with (first | ((with_reducible refine gate_callee (f := 40) rfl ?_); refine goesL_ (some 3) rfl rfl Try.func40 (by kernel_rfl) rfl #[.string (⟨#[49]⟩ : ByteArray)] rfl (by (try simp only [List.map_toArray, List.map_cons, List.map_nil]); first | done | rfl | (simp only [List.length_drop, List.length_take]; rfl)) ?_; (with_reducible refine (reredoslaw08_lit.calls (⟨#[49]⟩ : ByteArray) t213 _ A1.out).mono ?_); rintro e w29 ⟨v214, rfl, ho0, hb⟩; refine ⟨_, rfl, ?_⟩; have n0_ := am (Kd.N_lower (Kd.N_mono (ok' := fun k_ => True) ho0 (fun k_ hk_ => trivial)) (below_size (by repeat (first | (with_reducible first | exact HB.out | apply lA | apply lN | apply lD) | exact HB.out)))); have n1_ := am (below_step (by repeat (first | (with_reducible first | exact HB.out | apply lA | apply lN | apply lD) | exact HB.out)) hb); clear HB; have HO215 := n0_; have HB := n1_; clear n0_ n1_; (try clear hb); (try clear hb2); (try clear hk); (try clear hi); (try clear ho0)) | ((with_reducible refine gate_callee (f := 40) rfl ?_); refine goesL_ (some 4) rfl rfl Try.func40 (by kernel_rfl) rfl #[.string (⟨#[50]⟩ : ByteArray)] rfl (by (try simp only [List.map_toArray, List.map_cons, List.map_nil]); first | done | rfl | (simp only [List.length_drop, List.length_take]; rfl)) ?_; (with_reducible refine (reredoslaw08_lit.calls (⟨#[50]⟩ : ByteArray) t216 _ A2.out).mono ?_); rintro e w30 ⟨v217, rfl, ho0, hb⟩; refine ⟨_, rfl, ?_⟩; have n0_ := am (Kd.N_elder' (by (with_reducible repeat (first | apply Kd.N_alloc | apply Kd.N_drewN | apply Kd.N_drew)); exact HO215.out) (Kd.N_base ho0) hb); have n1_ := am (Kd.N_lower (Kd.N_mono (ok' := fun k_ => some k_ ≠ (v214 : Value).ownBlock) ho0 (fun k_ hk_ => (Kd.fresh' (Kd.N_lt (by (with_reducible repeat (first | apply Kd.N_alloc | apply Kd.N_drewN | apply Kd.N_drew)); exact HO215.out)) k_ hk_))) (below_size (by repeat (first | (with_reducible first | exact HB.out | apply lA | apply lN | apply lD) | exact HB.out)))); have n2_ := am (below_step (by repeat (first | (with_reducible first | exact HB.out | apply lA | apply lN | apply lD) | exact HB.out)) hb); clear HO215; clear HB; have HO215 := n0_; have HO218 := n1_; have HB := n2_; clear n0_ n1_ n2_; (try clear hb); (try clear hb2); (try clear hk); (try clear hi); (try clear ho0); obtain ⟨Ao31, co31, eo31⟩ := Kd.N_slice HO215.out; subst eo31; obtain ⟨Ao32, co32, eo32⟩ := Kd.N_slice HO218.out; subst eo32) | ((with_reducible refine gate_dst (N := 5) rfl ?_); (try (refine gate_guard (by rfl) ?_; dsimp only)); refine Kd.N_lit (Kd.slice 25 k25) _ 22 ?hg (N' := 5) ?hd (xs := ([t213, t216] : List (List (S25)))) (inner := [.slice Ao31 t213.length co31, .slice Ao32 t216.length co32]) (ok := (fun _ => True)) (okp := (fun _ => True)) ?hr ?hp (fun _ hk => hk) ((show ∀ k_, w30.heap.size ≤ k_ → (fun _ => True) k_ from fun k_ hk => trivial) _ (Nat.le_refl _)) (Below.refl _ _) (Nat.le_refl _) (by simp) ?_; (case hd => rfl); (case hg => rfl); (case hr => first | (go_simp; done) | (go_simp; rfl)); (case hp => exact (Reps.one (show Kd.FK (Kd.slice 25 k25) _ _ t213 [.slice Ao31 t213.length co31] from (Kd.FK_slice_mk (Kd.N_reads' (Kd.N_mono (ok' := (fun _ => True)) (HO215.out) (fun k_ hk => trivial))).2.1 (Kd.N_F (Kd.N_mono (ok' := (fun _ => True)) (HO215.out) (fun k_ hk => trivial))))) (Reps.one (show Kd.FK (Kd.slice 25 k25) _ _ t216 [.slice Ao32 t216.length co32] from (Kd.FK_slice_mk (Kd.N_reads' (Kd.N_mono (ok' := (fun _ => True)) (HO218.out) (fun k_ hk => trivial))).2.1 (Kd.N_F (Kd.N_mono (ok' := (fun _ => True)) (HO218.out) (fun k_ hk => trivial))))) (Reps.none _ _)))); intro v220 w33 ho34 hb hg_ hnew_; clear hg_ hnew_; (first | rw [← Ny219.out] at ho34 | (simp only [Int.reduceToNat] at ho34; rw [← Ny219.out] at ho34)); have n0_ := am (Kd.N_lower ho34 (below_size (by repeat (first | (with_reducible first | exact HB.out | apply lA | apply lN | apply lD) | exact HB.out)))); have n1_ := am (below_step (by repeat (first | (with_reducible first | exact HB.out | apply lA | apply lN | apply lD) | exact HB.out)) hb); clear HB; clear HO215; clear HO218; have HO221 := n0_; have HB := n1_; clear n0_ n1_; clear hb ho34; obtain ⟨Ao35, co35, eo35⟩ := Kd.N_slice HO221.out; subst eo35) | ((with_reducible refine gate_callee (f := 32) rfl ?_); refine goesL_ (some 6) rfl rfl Try.func32 (by kernel_rfl) rfl #[.agg #[.int .i64 4, .string (⟨#[43]⟩ : ByteArray), .string (⟨#[]⟩ : ByteArray), .string (⟨#[]⟩ : ByteArray), .slice none 0 0], .slice Ao35 y219.length co35] rfl (by (try simp only [List.map_toArray, List.map_cons, List.map_nil]); first | done | rfl | (simp only [List.length_drop, List.length_take]; rfl)) ?_; (refine (tree_Node.calls k 4 (⟨#[43]⟩ : ByteArray) (⟨#[]⟩ : ByteArray) (⟨#[]⟩ : ByteArray) (fun k_ => False) _ _ ([] : List ByteArray) (fun k_ => True) _ _ y219 t222 _ ?side1 ?side2 A3.out).mono ?_); (case side1 => exact Kd.V_nil _ _ _ _ _); (case side2 => exact Kd.N_V (HO221.out)); rintro e w36 ⟨v223, rfl, ho0, hb⟩; refine ⟨_, rfl, ?_⟩; have n0_ := am (Kd.N_elder' (by (with_reducible repeat (first | apply Kd.N_alloc | apply Kd.N_drewN | apply Kd.N_drew)); exact HO221.out) (Kd.N_base ho0) hb); have n1_ := am (Kd.N_lower (Kd.N_mono (ok' := fun k_ => True) ho0 (fun k_ hk_ => trivial)) (below_size (by repeat (first | (with_reducible first | exact HB.out | apply lA | apply lN | apply lD) | exact HB.out)))); have n2_ := am (below_step (by repeat (first | (with_reducible first | exact HB.out | apply lA | apply lN | apply lD) | exact HB.out)) hb); clear HO221; clear HB; have HO221 := n0_; have HO224 := n1_; have HB := n2_; clear n0_ n1_ n2_; (try clear hb); (try clear hb2); (try clear hk); (try clear hi); (try clear ho0); obtain ⟨Ao37, co37, eo37⟩ := Kd.N_slice HO224.out; subst eo37; have p225 : 0 ≤ (0 : Int) := (by omega); have q225 : 0 < (t222.length : Int) := of_decide_eq_true (by first | (with_reducible assumption) | assumption); obtain ⟨ad225, A225_4, c225_4, e225, hx225_0, hx225_1, hx225_2, hx225_3, hx225_4, hl225_4, hi225_4⟩ := at_T25 (Kd.N_reads' HO224.out).2.2 0 p225 q225; cases e225; obtain ⟨ce225, hce225, hMe225, hcc225⟩ := Kd.N_get HO224.out z25 0 p225 (by first | exact q225 | exact of_decide_eq_true (by first | (with_reducible assumption) | assumption) | (have e_ := (Kd.N_reads' HO224.out).1; omega)); obtain ⟨ua225_4, uc225_4, rfl, ul225_4, ge225_4⟩ := k25_openF hMe225; have hv225_4 := hcc225 4 _ rfl; rw [add_field _ _ 4 (by omega)] at hv225_4; replace hv225_4 := Option.some.inj (hv225_4.symm.trans hx225_4); injection hv225_4 with hva_ hvn_ hvc_; rw [hva_] at ge225_4; rw [hvc_] at ul225_4; have HL225_4 := am (show Kd.V Kd.string 9 _ w.heap.size _ _ ((rd_T25 t222 0).f4) from Kd.V_mk ul225_4 ge225_4); clear hva_ hvn_ hvc_ ge225_4 ul225_4; clear hcc225 hce225; have qi225 : (0 < t222.length) = True := eq_true (by omega); (try rw [show ((0 : Int)).toNat = 0 from rfl] at hx225_0); (try rw [show 0 * 5 = 0 from rfl] at hx225_0); (try rw [Addr.add_zero'] at hx225_0); (try rw [show ((0 : Int)).toNat = 0 from rfl] at hx225_1); (try rw [show 0 * 5 = 0 from rfl] at hx225_1); (try rw [Addr.add_zero'] at hx225_1); (try rw [show ((0 : Int)).toNat = 0 from rfl] at hx225_2); (try rw [show 0 * 5 = 0 from rfl] at hx225_2); (try rw [Addr.add_zero'] at hx225_2); (try rw [show ((0 : Int)).toNat = 0 from rfl] at hx225_3); (try rw [show 0 * 5 = 0 from rfl] at hx225_3); (try rw [Addr.add_zero'] at hx225_3); (try rw [show ((0 : Int)).toNat = 0 from rfl] at hx225_4); (try rw [show 0 * 5 = 0 from rfl] at hx225_4); (try rw [Addr.add_zero'] at hx225_4); have HR225_4 := am hi225_4; have HC225_4 := am hl225_4; clear hi225_4 hl225_4; replace p225 := eq_true p225; replace q225 := eq_true q225) | (go_at_call 28; (with_reducible refine (tree_May.calls k _ _ t222 true _ ?side1 ?side2 A7.out).mono ?_); (case side1 => repeat (first | exact (Kd.N_reads' HO224.out).2.2 | (with_reducible refine Kd.C_alloc ?_ _) | (with_reducible refine Kd.C_drewN ?_ _) | (with_reducible refine Kd.C_drew ?_))); (case side2 => exact (Kd.N_reads' HO224.out).2.1); rintro e w38 ⟨rfl, hb⟩; have n0_ := am (Kd.N_below (by (with_reducible repeat (first | apply Kd.N_alloc | apply Kd.N_drewN | apply Kd.N_drew)); exact HO221.out) hb); have n1_ := am (Kd.N_below (by (with_reducible repeat (first | apply Kd.N_alloc | apply Kd.N_drewN | apply Kd.N_drew)); exact HO224.out) hb); have n2_ := am (Kd.V_below (by (with_reducible repeat (first | apply Kd.V_alloc | apply Kd.V_drewN | apply Kd.V_drew)); exact HL225_4.out) hb); have n3_ := am (Kd.C_below (by repeat (first | (with_reducible exact HR225_4.out) | (with_reducible refine Kd.C_alloc ?_ _) | (with_reducible refine Kd.C_drewN ?_ _) | (with_reducible refine Kd.C_drew ?_) | exact HR225_4.out)) hb); have n4_ := am (below_step (by repeat (first | (with_reducible first | exact HB.out | apply lA | apply lN | apply lD) | exact HB.out)) hb); clear HO221; clear HO224; clear HL225_4; clear HR225_4; clear HB; have HO221 := n0_; have HO224 := n1_; have HL225_4 := n2_; have HR225_4 := n3_; have HB := n4_; clear n0_ n1_ n2_ n3_ n4_; (try clear hb); (try clear hb2); (try clear hk); (try clear hi)) | (go_at_call 26; (with_reducible refine (tree_Depth.calls k _ _ t222 t227 _ ?side1 ?side2 A9.out).mono ?_); (case side1 => repeat (first | exact (Kd.N_reads' HO224.out).2.2 | (with_reducible refine Kd.C_alloc ?_ _) | (with_reducible refine Kd.C_drewN ?_ _) | (with_reducible refine Kd.C_drew ?_))); (case side2 => exact (Kd.N_reads' HO224.out).2.1); rintro e w39 ⟨rfl, hb⟩; have n0_ := am (Kd.N_below (by (with_reducible repeat (first | apply Kd.N_alloc | apply Kd.N_drewN | apply Kd.N_drew)); exact HO221.out) hb); have n1_ := am (Kd.N_below (by (with_reducible repeat (first | apply Kd.N_alloc | apply Kd.N_drewN | apply Kd.N_drew)); exact HO224.out) hb); have n2_ := am (Kd.V_below (by (with_reducible repeat (first | apply Kd.V_alloc | apply Kd.V_drewN | apply Kd.V_drew)); exact HL225_4.out) hb); have n3_ := am (Kd.C_below (by repeat (first | (with_reducible exact HR225_4.out) | (with_reducible refine Kd.C_alloc ?_ _) | (with_reducible refine Kd.C_drewN ?_ _) | (with_reducible refine Kd.C_drew ?_) | exact HR225_4.out)) hb); have n4_ := am (below_step (by repeat (first | (with_reducible first | exact HB.out | apply lA | apply lN | apply lD) | exact HB.out)) hb); clear HO221; clear HO224; clear HL225_4; clear HR225_4; clear HB; have HO221 := n0_; have HO224 := n1_; have HL225_4 := n2_; have HR225_4 := n3_; have HB := n4_; clear n0_ n1_ n2_ n3_ n4_; (try clear hb); (try clear hb2); (try clear hk); (try clear hi)))
      go_ret
      exact ⟨by first | rfl | (simp [errW_none, errW_some] <;> rfl) | (simp [*, errW_none, errW_some] <;> rfl), by repeat (first | (with_reducible first | exact HB.out | apply lA | apply lN | apply lD) | exact HB.out)⟩
    ·replace c8 := Bool.eq_false_iff.mpr c8
     subst c8
     have H1 : (some false) = some r := by rw [if_neg (show ¬ (false = true) by decide)] at H; exact H
     clear H
     have H := H1
     clear H1
     obtain rfl := Option.some.inj H
     go_enter Try.func17, Try.ntmps17
     go_wp2_with (first | ((with_reducible refine gate_callee (f := 40) rfl ?_); refine goesL_ (some 3) rfl rfl Try.func40 (by kernel_rfl) rfl #[.string (⟨#[49]⟩ : ByteArray)] rfl (by (try simp only [List.map_toArray, List.map_cons, List.map_nil]); first | done | rfl | (simp only [List.length_drop, List.length_take]; rfl)) ?_; (with_reducible refine (reredoslaw08_lit.calls (⟨#[49]⟩ : ByteArray) t213 _ A1.out).mono ?_); rintro e w40 ⟨v214, rfl, ho0, hb⟩; refine ⟨_, rfl, ?_⟩; have n0_ := am (Kd.N_lower (Kd.N_mono (ok' := fun k_ => True) ho0 (fun k_ hk_ => trivial)) (below_size (by repeat (first | (with_reducible first | exact HB.out | apply lA | apply lN | apply lD) | exact HB.out)))); have n1_ := am (below_step (by repeat (first | (with_reducible first | exact HB.out | apply lA | apply lN | apply lD) | exact HB.out)) hb); clear HB; have HO215 := n0_; have HB := n1_; clear n0_ n1_; (try clear hb); (try clear hb2); (try clear hk); (try clear hi); (try clear ho0)) | ((with_reducible refine gate_callee (f := 40) rfl ?_); refine goesL_ (some 4) rfl rfl Try.func40 (by kernel_rfl) rfl #[.string (⟨#[50]⟩ : ByteArray)] rfl (by (try simp only [List.map_toArray, List.map_cons, List.map_nil]); first | done | rfl | (simp only [List.length_drop, List.length_take]; rfl)) ?_; (with_reducible refine (reredoslaw08_lit.calls (⟨#[50]⟩ : ByteArray) t216 _ A2.out).mono ?_); rintro e w41 ⟨v217, rfl, ho0, hb⟩; refine ⟨_, rfl, ?_⟩; have n0_ := am (Kd.N_elder' (by (with_reducible repeat (first | apply Kd.N_alloc | apply Kd.N_drewN | apply Kd.N_drew)); exact HO215.out) (Kd.N_base ho0) hb); have n1_ := am (Kd.N_lower (Kd.N_mono (ok' := fun k_ => some k_ ≠ (v214 : Value).ownBlock) ho0 (fun k_ hk_ => (Kd.fresh' (Kd.N_lt (by (with_reducible repeat (first | apply Kd.N_alloc | apply Kd.N_drewN | apply Kd.N_drew)); exact HO215.out)) k_ hk_))) (below_size (by repeat (first | (with_reducible first | exact HB.out | apply lA | apply lN | apply lD) | exact HB.out)))); have n2_ := am (below_step (by repeat (first | (with_reducible first | exact HB.out | apply lA | apply lN | apply lD) | exact HB.out)) hb); clear HO215; clear HB; have HO215 := n0_; have HO218 := n1_; have HB := n2_; clear n0_ n1_ n2_; (try clear hb); (try clear hb2); (try clear hk); (try clear hi); (try clear ho0); obtain ⟨Ao42, co42, eo42⟩ := Kd.N_slice HO215.out; subst eo42; obtain ⟨Ao43, co43, eo43⟩ := Kd.N_slice HO218.out; subst eo43) | ((with_reducible refine gate_dst (N := 5) rfl ?_); (try (refine gate_guard (by rfl) ?_; dsimp only)); refine Kd.N_lit (Kd.slice 25 k25) _ 22 ?hg (N' := 5) ?hd (xs := ([t213, t216] : List (List (S25)))) (inner := [.slice Ao42 t213.length co42, .slice Ao43 t216.length co43]) (ok := (fun _ => True)) (okp := (fun _ => True)) ?hr ?hp (fun _ hk => hk) ((show ∀ k_, w41.heap.size ≤ k_ → (fun _ => True) k_ from fun k_ hk => trivial) _ (Nat.le_refl _)) (Below.refl _ _) (Nat.le_refl _) (by simp) ?_; (case hd => rfl); (case hg => rfl); (case hr => first | (go_simp; done) | (go_simp; rfl)); (case hp => exact (Reps.one (show Kd.FK (Kd.slice 25 k25) _ _ t213 [.slice Ao42 t213.length co42] from (Kd.FK_slice_mk (Kd.N_reads' (Kd.N_mono (ok' := (fun _ => True)) (HO215.out) (fun k_ hk => trivial))).2.1 (Kd.N_F (Kd.N_mono (ok' := (fun _ => True)) (HO215.out) (fun k_ hk => trivial))))) (Reps.one (show Kd.FK (Kd.slice 25 k25) _ _ t216 [.slice Ao43 t216.length co43] from (Kd.FK_slice_mk (Kd.N_reads' (Kd.N_mono (ok' := (fun _ => True)) (HO218.out) (fun k_ hk => trivial))).2.1 (Kd.N_F (Kd.N_mono (ok' := (fun _ => True)) (HO218.out) (fun k_ hk => trivial))))) (Reps.none _ _)))); intro v220 w44 ho45 hb hg_ hnew_; clear hg_ hnew_; (first | rw [← Ny219.out] at ho45 | (simp only [Int.reduceToNat] at ho45; rw [← Ny219.out] at ho45)); have n0_ := am (Kd.N_lower ho45 (below_size (by repeat (first | (with_reducible first | exact HB.out | apply lA | apply lN | apply lD) | exact HB.out)))); have n1_ := am (below_step (by repeat (first | (with_reducible first | exact HB.out | apply lA | apply lN | apply lD) | exact HB.out)) hb); clear HB; clear HO215; clear HO218; have HO221 := n0_; have HB := n1_; clear n0_ n1_; clear hb ho45; obtain ⟨Ao46, co46, eo46⟩ := Kd.N_slice HO221.out; subst eo46) | ((with_reducible refine gate_callee (f := 32) rfl ?_); refine goesL_ (some 6) rfl rfl Try.func32 (by kernel_rfl) rfl #[.agg #[.int .i64 4, .string (⟨#[43]⟩ : ByteArray), .string (⟨#[]⟩ : ByteArray), .string (⟨#[]⟩ : ByteArray), .slice none 0 0], .slice Ao46 y219.length co46] rfl (by (try simp only [List.map_toArray, List.map_cons, List.map_nil]); first | done | rfl | (simp only [List.length_drop, List.length_take]; rfl)) ?_; (refine (tree_Node.calls k 4 (⟨#[43]⟩ : ByteArray) (⟨#[]⟩ : ByteArray) (⟨#[]⟩ : ByteArray) (fun k_ => False) _ _ ([] : List ByteArray) (fun k_ => True) _ _ y219 t222 _ ?side1 ?side2 A3.out).mono ?_); (case side1 => exact Kd.V_nil _ _ _ _ _); (case side2 => exact Kd.N_V (HO221.out)); rintro e w47 ⟨v223, rfl, ho0, hb⟩; refine ⟨_, rfl, ?_⟩; have n0_ := am (Kd.N_elder' (by (with_reducible repeat (first | apply Kd.N_alloc | apply Kd.N_drewN | apply Kd.N_drew)); exact HO221.out) (Kd.N_base ho0) hb); have n1_ := am (Kd.N_lower (Kd.N_mono (ok' := fun k_ => True) ho0 (fun k_ hk_ => trivial)) (below_size (by repeat (first | (with_reducible first | exact HB.out | apply lA | apply lN | apply lD) | exact HB.out)))); have n2_ := am (below_step (by repeat (first | (with_reducible first | exact HB.out | apply lA | apply lN | apply lD) | exact HB.out)) hb); clear HO221; clear HB; have HO221 := n0_; have HO224 := n1_; have HB := n2_; clear n0_ n1_ n2_; (try clear hb); (try clear hb2); (try clear hk); (try clear hi); (try clear ho0); obtain ⟨Ao48, co48, eo48⟩ := Kd.N_slice HO224.out; subst eo48; have p225 : 0 ≤ (0 : Int) := (by omega); have q225 : 0 < (t222.length : Int) := of_decide_eq_true (by first | (with_reducible assumption) | assumption); obtain ⟨ad225, A225_4, c225_4, e225, hx225_0, hx225_1, hx225_2, hx225_3, hx225_4, hl225_4, hi225_4⟩ := at_T25 (Kd.N_reads' HO224.out).2.2 0 p225 q225; cases e225; obtain ⟨ce225, hce225, hMe225, hcc225⟩ := Kd.N_get HO224.out z25 0 p225 (by first | exact q225 | exact of_decide_eq_true (by first | (with_reducible assumption) | assumption) | (have e_ := (Kd.N_reads' HO224.out).1; omega)); obtain ⟨ua225_4, uc225_4, rfl, ul225_4, ge225_4⟩ := k25_openF hMe225; have hv225_4 := hcc225 4 _ rfl; rw [add_field _ _ 4 (by omega)] at hv225_4; replace hv225_4 := Option.some.inj (hv225_4.symm.trans hx225_4); injection hv225_4 with hva_ hvn_ hvc_; rw [hva_] at ge225_4; rw [hvc_] at ul225_4; have HL225_4 := am (show Kd.V Kd.string 9 _ w.heap.size _ _ ((rd_T25 t222 0).f4) from Kd.V_mk ul225_4 ge225_4); clear hva_ hvn_ hvc_ ge225_4 ul225_4; clear hcc225 hce225; have qi225 : (0 < t222.length) = True := eq_true (by omega); (try rw [show ((0 : Int)).toNat = 0 from rfl] at hx225_0); (try rw [show 0 * 5 = 0 from rfl] at hx225_0); (try rw [Addr.add_zero'] at hx225_0); (try rw [show ((0 : Int)).toNat = 0 from rfl] at hx225_1); (try rw [show 0 * 5 = 0 from rfl] at hx225_1); (try rw [Addr.add_zero'] at hx225_1); (try rw [show ((0 : Int)).toNat = 0 from rfl] at hx225_2); (try rw [show 0 * 5 = 0 from rfl] at hx225_2); (try rw [Addr.add_zero'] at hx225_2); (try rw [show ((0 : Int)).toNat = 0 from rfl] at hx225_3); (try rw [show 0 * 5 = 0 from rfl] at hx225_3); (try rw [Addr.add_zero'] at hx225_3); (try rw [show ((0 : Int)).toNat = 0 from rfl] at hx225_4); (try rw [show 0 * 5 = 0 from rfl] at hx225_4); (try rw [Addr.add_zero'] at hx225_4); have HR225_4 := am hi225_4; have HC225_4 := am hl225_4; clear hi225_4 hl225_4; replace p225 := eq_true p225; replace q225 := eq_true q225) | (go_at_call 28; (with_reducible refine (tree_May.calls k _ _ t222 false _ ?side1 ?side2 A7.out).mono ?_); (case side1 => repeat (first | exact (Kd.N_reads' HO224.out).2.2 | (with_reducible refine Kd.C_alloc ?_ _) | (with_reducible refine Kd.C_drewN ?_ _) | (with_reducible refine Kd.C_drew ?_))); (case side2 => exact (Kd.N_reads' HO224.out).2.1); rintro e w49 ⟨rfl, hb⟩; have n0_ := am (Kd.N_below (by (with_reducible repeat (first | apply Kd.N_alloc | apply Kd.N_drewN | apply Kd.N_drew)); exact HO221.out) hb); have n1_ := am (Kd.N_below (by (with_reducible repeat (first | apply Kd.N_alloc | apply Kd.N_drewN | apply Kd.N_drew)); exact HO224.out) hb); have n2_ := am (Kd.V_below (by (with_reducible repeat (first | apply Kd.V_alloc | apply Kd.V_drewN | apply Kd.V_drew)); exact HL225_4.out) hb); have n3_ := am (Kd.C_below (by repeat (first | (with_reducible exact HR225_4.out) | (with_reducible refine Kd.C_alloc ?_ _) | (with_reducible refine Kd.C_drewN ?_ _) | (with_reducible refine Kd.C_drew ?_) | exact HR225_4.out)) hb); have n4_ := am (below_step (by repeat (first | (with_reducible first | exact HB.out | apply lA | apply lN | apply lD) | exact HB.out)) hb); clear HO221; clear HO224; clear HL225_4; clear HR225_4; clear HB; have HO221 := n0_; have HO224 := n1_; have HL225_4 := n2_; have HR225_4 := n3_; have HB := n4_; clear n0_ n1_ n2_ n3_ n4_; (try clear hb); (try clear hb2); (try clear hk); (try clear hi)))
     go_ret
     exact ⟨by first | rfl | (simp [errW_none, errW_some] <;> rfl) | (simp [*, errW_none, errW_some] <;> rfl), by repeat (first | (with_reducible first | exact HB.out | apply lA | apply lN | apply lD) | exact HB.out)⟩
   ·rw [if_neg c6] at H
    have c6b0 : (((rd_T25 t222 0).f0) == 4) = false := beq_eq_false_iff_ne.mpr c6
    have c6b1 : (((rd_T25 t222 0).f0) != 4) = true := bne_iff_ne.mpr c6
    obtain rfl := Option.some.inj H
    go_enter Try.func17, Try.ntmps17
    go_wp2_with (first | ((with_reducible refine gate_callee (f := 40) rfl ?_); refine goesL_ (some 3) rfl rfl Try.func40 (by kernel_rfl) rfl #[.string (⟨#[49]⟩ : ByteArray)] rfl (by (try simp only [List.map_toArray, List.map_cons, List.map_nil]); first | done | rfl | (simp only [List.length_drop, List.length_take]; rfl)) ?_; (with_reducible refine (reredoslaw08_lit.calls (⟨#[49]⟩ : ByteArray) t213 _ A1.out).mono ?_); rintro e w50 ⟨v214, rfl, ho0, hb⟩; refine ⟨_, rfl, ?_⟩; have n0_ := am (Kd.N_lower (Kd.N_mono (ok' := fun k_ => True) ho0 (fun k_ hk_ => trivial)) (below_size (by repeat (first | (with_reducible first | exact HB.out | apply lA | apply lN | apply lD) | exact HB.out)))); have n1_ := am (below_step (by repeat (first | (with_reducible first | exact HB.out | apply lA | apply lN | apply lD) | exact HB.out)) hb); clear HB; have HO215 := n0_; have HB := n1_; clear n0_ n1_; (try clear hb); (try clear hb2); (try clear hk); (try clear hi); (try clear ho0)) | ((with_reducible refine gate_callee (f := 40) rfl ?_); refine goesL_ (some 4) rfl rfl Try.func40 (by kernel_rfl) rfl #[.string (⟨#[50]⟩ : ByteArray)] rfl (by (try simp only [List.map_toArray, List.map_cons, List.map_nil]); first | done | rfl | (simp only [List.length_drop, List.length_take]; rfl)) ?_; (with_reducible refine (reredoslaw08_lit.calls (⟨#[50]⟩ : ByteArray) t216 _ A2.out).mono ?_); rintro e w51 ⟨v217, rfl, ho0, hb⟩; refine ⟨_, rfl, ?_⟩; have n0_ := am (Kd.N_elder' (by (with_reducible repeat (first | apply Kd.N_alloc | apply Kd.N_drewN | apply Kd.N_drew)); exact HO215.out) (Kd.N_base ho0) hb); have n1_ := am (Kd.N_lower (Kd.N_mono (ok' := fun k_ => some k_ ≠ (v214 : Value).ownBlock) ho0 (fun k_ hk_ => (Kd.fresh' (Kd.N_lt (by (with_reducible repeat (first | apply Kd.N_alloc | apply Kd.N_drewN | apply Kd.N_drew)); exact HO215.out)) k_ hk_))) (below_size (by repeat (first | (with_reducible first | exact HB.out | apply lA | apply lN | apply lD) | exact HB.out)))); have n2_ := am (below_step (by repeat (first | (with_reducible first | exact HB.out | apply lA | apply lN | apply lD) | exact HB.out)) hb); clear HO215; clear HB; have HO215 := n0_; have HO218 := n1_; have HB := n2_; clear n0_ n1_ n2_; (try clear hb); (try clear hb2); (try clear hk); (try clear hi); (try clear ho0); obtain ⟨Ao52, co52, eo52⟩ := Kd.N_slice HO215.out; subst eo52; obtain ⟨Ao53, co53, eo53⟩ := Kd.N_slice HO218.out; subst eo53) | ((with_reducible refine gate_dst (N := 5) rfl ?_); (try (refine gate_guard (by rfl) ?_; dsimp only)); refine Kd.N_lit (Kd.slice 25 k25) _ 22 ?hg (N' := 5) ?hd (xs := ([t213, t216] : List (List (S25)))) (inner := [.slice Ao52 t213.length co52, .slice Ao53 t216.length co53]) (ok := (fun _ => True)) (okp := (fun _ => True)) ?hr ?hp (fun _ hk => hk) ((show ∀ k_, w51.heap.size ≤ k_ → (fun _ => True) k_ from fun k_ hk => trivial) _ (Nat.le_refl _)) (Below.refl _ _) (Nat.le_refl _) (by simp) ?_; (case hd => rfl); (case hg => rfl); (case hr => first | (go_simp; done) | (go_simp; rfl)); (case hp => exact (Reps.one (show Kd.FK (Kd.slice 25 k25) _ _ t213 [.slice Ao52 t213.length co52] from (Kd.FK_slice_mk (Kd.N_reads' (Kd.N_mono (ok' := (fun _ => True)) (HO215.out) (fun k_ hk => trivial))).2.1 (Kd.N_F (Kd.N_mono (ok' := (fun _ => True)) (HO215.out) (fun k_ hk => trivial))))) (Reps.one (show Kd.FK (Kd.slice 25 k25) _ _ t216 [.slice Ao53 t216.length co53] from (Kd.FK_slice_mk (Kd.N_reads' (Kd.N_mono (ok' := (fun _ => True)) (HO218.out) (fun k_ hk => trivial))).2.1 (Kd.N_F (Kd.N_mono (ok' := (fun _ => True)) (HO218.out) (fun k_ hk => trivial))))) (Reps.none _ _)))); intro v220 w54 ho55 hb hg_ hnew_; clear hg_ hnew_; (first | rw [← Ny219.out] at ho55 | (simp only [Int.reduceToNat] at ho55; rw [← Ny219.out] at ho55)); have n0_ := am (Kd.N_lower ho55 (below_size (by repeat (first | (with_reducible first | exact HB.out | apply lA | apply lN | apply lD) | exact HB.out)))); have n1_ := am (below_step (by repeat (first | (with_reducible first | exact HB.out | apply lA | apply lN | apply lD) | exact HB.out)) hb); clear HB; clear HO215; clear HO218; have HO221 := n0_; have HB := n1_; clear n0_ n1_; clear hb ho55; obtain ⟨Ao56, co56, eo56⟩ := Kd.N_slice HO221.out; subst eo56) | ((with_reducible refine gate_callee (f := 32) rfl ?_); refine goesL_ (some 6) rfl rfl Try.func32 (by kernel_rfl) rfl #[.agg #[.int .i64 4, .string (⟨#[43]⟩ : ByteArray), .string (⟨#[]⟩ : ByteArray), .string (⟨#[]⟩ : ByteArray), .slice none 0 0], .slice Ao56 y219.length co56] rfl (by (try simp only [List.map_toArray, List.map_cons, List.map_nil]); first | done | rfl | (simp only [List.length_drop, List.length_take]; rfl)) ?_; (refine (tree_Node.calls k 4 (⟨#[43]⟩ : ByteArray) (⟨#[]⟩ : ByteArray) (⟨#[]⟩ : ByteArray) (fun k_ => False) _ _ ([] : List ByteArray) (fun k_ => True) _ _ y219 t222 _ ?side1 ?side2 A3.out).mono ?_); (case side1 => exact Kd.V_nil _ _ _ _ _); (case side2 => exact Kd.N_V (HO221.out)); rintro e w57 ⟨v223, rfl, ho0, hb⟩; refine ⟨_, rfl, ?_⟩; have n0_ := am (Kd.N_elder' (by (with_reducible repeat (first | apply Kd.N_alloc | apply Kd.N_drewN | apply Kd.N_drew)); exact HO221.out) (Kd.N_base ho0) hb); have n1_ := am (Kd.N_lower (Kd.N_mono (ok' := fun k_ => True) ho0 (fun k_ hk_ => trivial)) (below_size (by repeat (first | (with_reducible first | exact HB.out | apply lA | apply lN | apply lD) | exact HB.out)))); have n2_ := am (below_step (by repeat (first | (with_reducible first | exact HB.out | apply lA | apply lN | apply lD) | exact HB.out)) hb); clear HO221; clear HB; have HO221 := n0_; have HO224 := n1_; have HB := n2_; clear n0_ n1_ n2_; (try clear hb); (try clear hb2); (try clear hk); (try clear hi); (try clear ho0); obtain ⟨Ao58, co58, eo58⟩ := Kd.N_slice HO224.out; subst eo58; have p225 : 0 ≤ (0 : Int) := (by omega); have q225 : 0 < (t222.length : Int) := of_decide_eq_true (by first | (with_reducible assumption) | assumption); obtain ⟨ad225, A225_4, c225_4, e225, hx225_0, hx225_1, hx225_2, hx225_3, hx225_4, hl225_4, hi225_4⟩ := at_T25 (Kd.N_reads' HO224.out).2.2 0 p225 q225; cases e225; obtain ⟨ce225, hce225, hMe225, hcc225⟩ := Kd.N_get HO224.out z25 0 p225 (by first | exact q225 | exact of_decide_eq_true (by first | (with_reducible assumption) | assumption) | (have e_ := (Kd.N_reads' HO224.out).1; omega)); obtain ⟨ua225_4, uc225_4, rfl, ul225_4, ge225_4⟩ := k25_openF hMe225; have hv225_4 := hcc225 4 _ rfl; rw [add_field _ _ 4 (by omega)] at hv225_4; replace hv225_4 := Option.some.inj (hv225_4.symm.trans hx225_4); injection hv225_4 with hva_ hvn_ hvc_; rw [hva_] at ge225_4; rw [hvc_] at ul225_4; have HL225_4 := am (show Kd.V Kd.string 9 _ w.heap.size _ _ ((rd_T25 t222 0).f4) from Kd.V_mk ul225_4 ge225_4); clear hva_ hvn_ hvc_ ge225_4 ul225_4; clear hcc225 hce225; have qi225 : (0 < t222.length) = True := eq_true (by omega); (try rw [show ((0 : Int)).toNat = 0 from rfl] at hx225_0); (try rw [show 0 * 5 = 0 from rfl] at hx225_0); (try rw [Addr.add_zero'] at hx225_0); (try rw [show ((0 : Int)).toNat = 0 from rfl] at hx225_1); (try rw [show 0 * 5 = 0 from rfl] at hx225_1); (try rw [Addr.add_zero'] at hx225_1); (try rw [show ((0 : Int)).toNat = 0 from rfl] at hx225_2); (try rw [show 0 * 5 = 0 from rfl] at hx225_2); (try rw [Addr.add_zero'] at hx225_2); (try rw [show ((0 : Int)).toNat = 0 from rfl] at hx225_3); (try rw [show 0 * 5 = 0 from rfl] at hx225_3); (try rw [Addr.add_zero'] at hx225_3); (try rw [show ((0 : Int)).toNat = 0 from rfl] at hx225_4); (try rw [show 0 * 5 = 0 from rfl] at hx225_4); (try rw [Addr.add_zero'] at hx225_4); have HR225_4 := am hi225_4; have HC225_4 := am hl225_4; clear hi225_4 hl225_4; replace p225 := eq_true p225; replace q225 := eq_true q225))
    go_ret
    exact ⟨by first | rfl | (simp [errW_none, errW_some] <;> rfl) | (simp [*, errW_none, errW_some] <;> rfl), by repeat (first | (with_reducible first | exact HB.out | apply lA | apply lN | apply lD) | exact HB.out)⟩
  ·rw [if_neg c5] at H
   exact absurd H (by simp)
 ·rw [if_neg c4] at H
  have c4b0 : ((t222.length : Int) == 3) = false := beq_eq_false_iff_ne.mpr c4
  have c4b1 : ((t222.length : Int) != 3) = true := bne_iff_ne.mpr c4
  obtain rfl := Option.some.inj H
  go_enter Try.func17, Try.ntmps17
  go_wp2_with (first | ((with_reducible refine gate_callee (f := 40) rfl ?_); refine goesL_ (some 3) rfl rfl Try.func40 (by kernel_rfl) rfl #[.string (⟨#[49]⟩ : ByteArray)] rfl (by (try simp only [List.map_toArray, List.map_cons, List.map_nil]); first | done | rfl | (simp only [List.length_drop, List.length_take]; rfl)) ?_; (with_reducible refine (reredoslaw08_lit.calls (⟨#[49]⟩ : ByteArray) t213 _ A1.out).mono ?_); rintro e w59 ⟨v214, rfl, ho0, hb⟩; refine ⟨_, rfl, ?_⟩; have n0_ := am (Kd.N_lower (Kd.N_mono (ok' := fun k_ => True) ho0 (fun k_ hk_ => trivial)) (below_size (by repeat (first | (with_reducible first | exact HB.out | apply lA | apply lN | apply lD) | exact HB.out)))); have n1_ := am (below_step (by repeat (first | (with_reducible first | exact HB.out | apply lA | apply lN | apply lD) | exact HB.out)) hb); clear HB; have HO215 := n0_; have HB := n1_; clear n0_ n1_; (try clear hb); (try clear hb2); (try clear hk); (try clear hi); (try clear ho0)) | ((with_reducible refine gate_callee (f := 40) rfl ?_); refine goesL_ (some 4) rfl rfl Try.func40 (by kernel_rfl) rfl #[.string (⟨#[50]⟩ : ByteArray)] rfl (by (try simp only [List.map_toArray, List.map_cons, List.map_nil]); first | done | rfl | (simp only [List.length_drop, List.length_take]; rfl)) ?_; (with_reducible refine (reredoslaw08_lit.calls (⟨#[50]⟩ : ByteArray) t216 _ A2.out).mono ?_); rintro e w60 ⟨v217, rfl, ho0, hb⟩; refine ⟨_, rfl, ?_⟩; have n0_ := am (Kd.N_elder' (by (with_reducible repeat (first | apply Kd.N_alloc | apply Kd.N_drewN | apply Kd.N_drew)); exact HO215.out) (Kd.N_base ho0) hb); have n1_ := am (Kd.N_lower (Kd.N_mono (ok' := fun k_ => some k_ ≠ (v214 : Value).ownBlock) ho0 (fun k_ hk_ => (Kd.fresh' (Kd.N_lt (by (with_reducible repeat (first | apply Kd.N_alloc | apply Kd.N_drewN | apply Kd.N_drew)); exact HO215.out)) k_ hk_))) (below_size (by repeat (first | (with_reducible first | exact HB.out | apply lA | apply lN | apply lD) | exact HB.out)))); have n2_ := am (below_step (by repeat (first | (with_reducible first | exact HB.out | apply lA | apply lN | apply lD) | exact HB.out)) hb); clear HO215; clear HB; have HO215 := n0_; have HO218 := n1_; have HB := n2_; clear n0_ n1_ n2_; (try clear hb); (try clear hb2); (try clear hk); (try clear hi); (try clear ho0); obtain ⟨Ao61, co61, eo61⟩ := Kd.N_slice HO215.out; subst eo61; obtain ⟨Ao62, co62, eo62⟩ := Kd.N_slice HO218.out; subst eo62) | ((with_reducible refine gate_dst (N := 5) rfl ?_); (try (refine gate_guard (by rfl) ?_; dsimp only)); refine Kd.N_lit (Kd.slice 25 k25) _ 22 ?hg (N' := 5) ?hd (xs := ([t213, t216] : List (List (S25)))) (inner := [.slice Ao61 t213.length co61, .slice Ao62 t216.length co62]) (ok := (fun _ => True)) (okp := (fun _ => True)) ?hr ?hp (fun _ hk => hk) ((show ∀ k_, w60.heap.size ≤ k_ → (fun _ => True) k_ from fun k_ hk => trivial) _ (Nat.le_refl _)) (Below.refl _ _) (Nat.le_refl _) (by simp) ?_; (case hd => rfl); (case hg => rfl); (case hr => first | (go_simp; done) | (go_simp; rfl)); (case hp => exact (Reps.one (show Kd.FK (Kd.slice 25 k25) _ _ t213 [.slice Ao61 t213.length co61] from (Kd.FK_slice_mk (Kd.N_reads' (Kd.N_mono (ok' := (fun _ => True)) (HO215.out) (fun k_ hk => trivial))).2.1 (Kd.N_F (Kd.N_mono (ok' := (fun _ => True)) (HO215.out) (fun k_ hk => trivial))))) (Reps.one (show Kd.FK (Kd.slice 25 k25) _ _ t216 [.slice Ao62 t216.length co62] from (Kd.FK_slice_mk (Kd.N_reads' (Kd.N_mono (ok' := (fun _ => True)) (HO218.out) (fun k_ hk => trivial))).2.1 (Kd.N_F (Kd.N_mono (ok' := (fun _ => True)) (HO218.out) (fun k_ hk => trivial))))) (Reps.none _ _)))); intro v220 w63 ho64 hb hg_ hnew_; clear hg_ hnew_; (first | rw [← Ny219.out] at ho64 | (simp only [Int.reduceToNat] at ho64; rw [← Ny219.out] at ho64)); have n0_ := am (Kd.N_lower ho64 (below_size (by repeat (first | (with_reducible first | exact HB.out | apply lA | apply lN | apply lD) | exact HB.out)))); have n1_ := am (below_step (by repeat (first | (with_reducible first | exact HB.out | apply lA | apply lN | apply lD) | exact HB.out)) hb); clear HB; clear HO215; clear HO218; have HO221 := n0_; have HB := n1_; clear n0_ n1_; clear hb ho64; obtain ⟨Ao65, co65, eo65⟩ := Kd.N_slice HO221.out; subst eo65) | ((with_reducible refine gate_callee (f := 32) rfl ?_); refine goesL_ (some 6) rfl rfl Try.func32 (by kernel_rfl) rfl #[.agg #[.int .i64 4, .string (⟨#[43]⟩ : ByteArray), .string (⟨#[]⟩ : ByteArray), .string (⟨#[]⟩ : ByteArray), .slice none 0 0], .slice Ao65 y219.length co65] rfl (by (try simp only [List.map_toArray, List.map_cons, List.map_nil]); first | done | rfl | (simp only [List.length_drop, List.length_take]; rfl)) ?_; (refine (tree_Node.calls k 4 (⟨#[43]⟩ : ByteArray) (⟨#[]⟩ : ByteArray) (⟨#[]⟩ : ByteArray) (fun k_ => False) _ _ ([] : List ByteArray) (fun k_ => True) _ _ y219 t222 _ ?side1 ?side2 A3.out).mono ?_); (case side1 => exact Kd.V_nil _ _ _ _ _); (case side2 => exact Kd.N_V (HO221.out)); rintro e w66 ⟨v223, rfl, ho0, hb⟩; refine ⟨_, rfl, ?_⟩; have n0_ := am (Kd.N_elder' (by (with_reducible repeat (first | apply Kd.N_alloc | apply Kd.N_drewN | apply Kd.N_drew)); exact HO221.out) (Kd.N_base ho0) hb); have n1_ := am (Kd.N_lower (Kd.N_mono (ok' := fun k_ => True) ho0 (fun k_ hk_ => trivial)) (below_size (by repeat (first | (with_reducible first | exact HB.out | apply lA | apply lN | apply lD) | exact HB.out)))); have n2_ := am (below_step (by repeat (first | (with_reducible first | exact HB.out | apply lA | apply lN | apply lD) | exact HB.out)) hb); clear HO221; clear HB; have HO221 := n0_; have HO224 := n1_; have HB := n2_; clear n0_ n1_ n2_; (try clear hb); (try clear hb2); (try clear hk); (try clear hi); (try clear ho0); obtain ⟨Ao67, co67, eo67⟩ := Kd.N_slice HO224.out; subst eo67))
  go_ret
  exact ⟨by first | rfl | (simp [errW_none, errW_some] <;> rfl) | (simp [*, errW_none, errW_some] <;> rfl), by repeat (first | (with_reducible first | exact HB.out | apply lA | apply lN | apply lD) | exact HB.out)⟩
end Go.Proofs.Ytdelccahgchadaa.P
end
section
namespace Go.Proofs.Ytdelccahgchadaa.P
open Go.RowKit Go.Proofs.YtdelccahgchadaaW.PrintWords Go.Proofs.YtdelccahgchadaaW.PrintLast Go.Proofs.YtdelccahgchadaaW.PrintMore
attribute [local go_sem] max2_int min2_int max_two min_two max_three min_three max_four min_four   
set_option linter.unusedVariables false
set_option linter.unusedSimpArgs false
mutual
def reredosref08_Few.l0 : Nat → List (S25) → Int → Option (Bool)
 | 0, _, _ => none
 | k + 1, x0, x3 => if x3 < (x0.length : Int) then (reredosref08_Few.j1 k x0 x3 (decide (x3 < 81))) else (reredosref08_Few.j1 k x0 x3 false)
def reredosref08_Few.j1 : Nat → List (S25) → Int → Bool → Option (Bool)
 | 0, _, _, _ => none
 | k + 1, x0, x3, x12 => if x12 = true then (if 0 ≤ x3 then (if x3 < (x0.length : Int) then (if (((rd_T25 x0 x3).f1).size : Int) > 120 then (reredosref08_Few.j2 k x0 x3 true) else (if (((rd_T25 x0 x3).f2).size : Int) > 120 then (reredosref08_Few.j2 k x0 x3 true) else (if (((rd_T25 x0 x3).f3).size : Int) > 120 then (reredosref08_Few.j2 k x0 x3 true) else (reredosref08_Few.j2 k x0 x3 (decide ((((rd_T25 x0 x3).f4).length : Int) > 120)))))) else (none)) else (none)) else (some (decide ((x0.length : Int) ≤ 80)))
def reredosref08_Few.j2 : Nat → List (S25) → Int → Bool → Option (Bool)
 | 0, _, _, _ => none
 | k + 1, x0, x3, x48 => if x48 = true then (some false) else (reredosref08_Few.l1 k x0 x3 0)
def reredosref08_Few.l1 : Nat → List (S25) → Int → Int → Option (Bool)
 | 0, _, _, _ => none
 | k + 1, x0, x3, x4 => if 0 ≤ x3 then (if x3 < (x0.length : Int) then (if x4 < (((rd_T25 x0 x3).f4).length : Int) then (if 0 ≤ x4 then (if ((rdOf ByteArray.empty ((rd_T25 x0 x3).f4) x4).size : Int) > 120 then (some false) else (reredosref08_Few.l1 k x0 x3 (wrap64 (x4 + 1)))) else (none)) else (reredosref08_Few.l0 k x0 (wrap64 (x3 + 1)))) else (none)) else (none)
end
def reredosref08_Few.f (k : Nat) (l0 : List (S25)) : Option (Bool) := reredosref08_Few.l0 k l0 0
theorem reredosref08_Few.mono_l : ∀ k, (∀ y0 y1, LeO (reredosref08_Few.l0 k y0 y1) (reredosref08_Few.l0 (k + 1) y0 y1)) ∧ (∀ y0 y1 y2, LeO (reredosref08_Few.j1 k y0 y1 y2) (reredosref08_Few.j1 (k + 1) y0 y1 y2)) ∧ (∀ y0 y1 y2, LeO (reredosref08_Few.j2 k y0 y1 y2) (reredosref08_Few.j2 (k + 1) y0 y1 y2)) ∧ (∀ y0 y1 y2, LeO (reredosref08_Few.l1 k y0 y1 y2) (reredosref08_Few.l1 (k + 1) y0 y1 y2))
 | 0 => ⟨fun _ _ r h => by simp [reredosref08_Few.l0] at h, fun _ _ _ r h => by simp [reredosref08_Few.j1] at h, fun _ _ _ r h => by simp [reredosref08_Few.j2] at h, fun _ _ _ r h => by simp [reredosref08_Few.l1] at h⟩
 | k + 1 => by
  obtain ⟨ih0, ih1, ih2, ih3⟩ := reredosref08_Few.mono_l k
  refine ⟨?_, ?_, ?_, ?_⟩
  ·intro y0 y1
   unfold reredosref08_Few.l0
   repeat' first
   | (with_reducible exact ih0 _ _)
   | (with_reducible exact ih1 _ _ _)
   | (with_reducible exact ih2 _ _ _)
   | (with_reducible exact ih3 _ _ _)
   | (with_reducible exact LeO.refl _)
   | (with_reducible exact LeO.none _)
   | (with_reducible refine LeO.ite ?_ ?_)
   | (with_reducible refine LeO.bind ?_ (fun _ => ?_))
   | exact ih0 _ _
   | exact ih1 _ _ _
   | exact ih2 _ _ _
   | exact ih3 _ _ _
   | exact LeO.none _
   | refine LeO.ite ?_ ?_
   | refine LeO.bind ?_ (fun _ => ?_)
  ·intro y0 y1 y2
   unfold reredosref08_Few.j1
   repeat' first
   | (with_reducible exact ih0 _ _)
   | (with_reducible exact ih1 _ _ _)
   | (with_reducible exact ih2 _ _ _)
   | (with_reducible exact ih3 _ _ _)
   | (with_reducible exact LeO.refl _)
   | (with_reducible exact LeO.none _)
   | (with_reducible refine LeO.ite ?_ ?_)
   | (with_reducible refine LeO.bind ?_ (fun _ => ?_))
   | exact ih0 _ _
   | exact ih1 _ _ _
   | exact ih2 _ _ _
   | exact ih3 _ _ _
   | exact LeO.none _
   | refine LeO.ite ?_ ?_
   | refine LeO.bind ?_ (fun _ => ?_)
  ·intro y0 y1 y2
   unfold reredosref08_Few.j2
   repeat' first
   | (with_reducible exact ih0 _ _)
   | (with_reducible exact ih1 _ _ _)
   | (with_reducible exact ih2 _ _ _)
   | (with_reducible exact ih3 _ _ _)
   | (with_reducible exact LeO.refl _)
   | (with_reducible exact LeO.none _)
   | (with_reducible refine LeO.ite ?_ ?_)
   | (with_reducible refine LeO.bind ?_ (fun _ => ?_))
   | exact ih0 _ _
   | exact ih1 _ _ _
   | exact ih2 _ _ _
   | exact ih3 _ _ _
   | exact LeO.none _
   | refine LeO.ite ?_ ?_
   | refine LeO.bind ?_ (fun _ => ?_)
  ·intro y0 y1 y2
   unfold reredosref08_Few.l1
   repeat' first
   | (with_reducible exact ih0 _ _)
   | (with_reducible exact ih1 _ _ _)
   | (with_reducible exact ih2 _ _ _)
   | (with_reducible exact ih3 _ _ _)
   | (with_reducible exact LeO.refl _)
   | (with_reducible exact LeO.none _)
   | (with_reducible refine LeO.ite ?_ ?_)
   | (with_reducible refine LeO.bind ?_ (fun _ => ?_))
   | exact ih0 _ _
   | exact ih1 _ _ _
   | exact ih2 _ _ _
   | exact ih3 _ _ _
   | exact LeO.none _
   | refine LeO.ite ?_ ?_
   | refine LeO.bind ?_ (fun _ => ?_)
theorem reredosref08_Few.mono : ∀ a0 k, LeO (reredosref08_Few.f k a0) (reredosref08_Few.f (k + 1) a0) := by
 intro a0 k
 obtain ⟨ih0, ih1, ih2, ih3⟩ := reredosref08_Few.mono_l k
 unfold reredosref08_Few.f
 repeat' first
   | (with_reducible exact ih0 _ _)
   | (with_reducible exact ih1 _ _ _)
   | (with_reducible exact ih2 _ _ _)
   | (with_reducible exact ih3 _ _ _)
   | (with_reducible exact LeO.refl _)
   | (with_reducible exact LeO.none _)
   | (with_reducible refine LeO.ite ?_ ?_)
   | (with_reducible refine LeO.bind ?_ (fun _ => ?_))
   | exact ih0 _ _
   | exact ih1 _ _ _
   | exact ih2 _ _ _
   | exact ih3 _ _ _
   | exact LeO.none _
   | refine LeO.ite ?_ ?_
   | refine LeO.bind ?_ (fun _ => ?_)
set_option maxHeartbeats 8000000 in
set_option maxRecDepth 100000 in
theorem reredosref08_Few.calls (k : Nat) (A0 : Option Addr) (c0 : Nat) (l0 : List (S25)) (r : Bool) (w : World) (hr0 : Kd.C k25 w A0 l0.length l0) (hc0 : l0.length ≤ c0) (h : reredosref08_Few.f k l0 = some r) :
  Calls Try.prog 18 #[.slice A0 l0.length c0] w fun e w' => e = .returned (.bool r) ∧ Drawn0 w w' := by
 have HR0 := am hr0
 have HC0 := am hc0
 clear hr0 hc0
 have H : (reredosref08_Few.l0 k l0 0) = some r := h
 clear h
 have H' := am H
 clear H
 go_enter Try.func18, Try.ntmps18
 go_wp2
 go_loopg [3] k (fun kq v3 w' => ∃ (x3_1 : Int), v3 = .int .i64 x3_1 ∧ Aside0 (reredosref08_Few.l0 kq l0 x3_1 = some r) ∧ Aside0 (kq ≤ k) ∧ Drawn0 w w')
 case atStart => exact ⟨(0), (by first | rfl | (simp; done) | (simp [*]; done)), H', ⟨Nat.le_refl _⟩, by repeat (first | exact Drawn0.refl _ | apply Drawn0.step)⟩
 case round =>
  clear H'
  try clear c1
  obtain ⟨x3_1, rfl, HA, HK1, ⟨m1, rfl⟩⟩ := hrel
  cases gk with
  | zero => exact absurd HA.out (by simp [reredosref08_Few.l0])
  | succ k1 =>
   have H := HA.out
   clear HA
   simp only [reredosref08_Few.l0] at H
   have HC2 := am H
   clear H
   go_upto_region 2 with (fail)
   go_cut [12] (fun v12 wc => ∃ (kq : Nat) (x12_1 : Bool), v12 = .bool x12_1 ∧ Aside0 (reredosref08_Few.j1 kq l0 x3_1 x12_1 = some r) ∧ Aside0 (kq ≤ k1) ∧ Drawn0 w wc)
   case first =>
    have H := HC2.out
    clear HC2
    by_cases c3 : x3_1 < (l0.length : Int)
    ·rw [if_pos c3] at H
     have c3b0 : decide (x3_1 < (l0.length : Int)) = true := decide_eq_true c3
     clear c3
     (first | rw [c3b0] | (simp only [i64_w, i32_w]; rw [c3b0]) | skip)
     have H' := am H
     clear H
     go_wp2
     go_meet
     case rel => exact ⟨_, (decide (x3_1 < 81)), (by first | rfl | (simp; done) | (simp [*]; done)), H', ⟨by have := HK1.out; first | omega | exact Nat.le_refl _⟩, by repeat (first | exact Drawn0.refl _ | apply Drawn0.step)⟩
    ·rw [if_neg c3] at H
     have c3b0 : decide (x3_1 < (l0.length : Int)) = false := decide_eq_false c3
     clear c3
     (first | rw [c3b0] | (simp only [i64_w, i32_w]; rw [c3b0]) | skip)
     have H' := am H
     clear H
     go_wp2
     go_meet
     case rel => exact ⟨_, (false), (by first | rfl | (simp; done) | (simp [*]; done)), H', ⟨by have := HK1.out; first | omega | exact Nat.le_refl _⟩, by repeat (first | exact Drawn0.refl _ | apply Drawn0.step)⟩
   case rest =>
    clear HC2
    try clear c1
    try clear p2
    try clear c3
    try clear c3b0
    obtain ⟨kq, x12_1, rfl, HA, HJ1, ⟨mc1, rfl⟩⟩ := hcut
    cases kq with
    | zero => exact absurd HA.out (by simp [reredosref08_Few.j1])
    | succ kj1 =>
     have H := HA.out
     clear HA
     simp only [reredosref08_Few.j1] at H
     by_cases c4 : x12_1 = true
     ·subst c4
      have H1 : (if 0 ≤ x3_1 then (if x3_1 < (l0.length : Int) then (if (((rd_T25 l0 x3_1).f1).size : Int) > 120 then (reredosref08_Few.j2 kj1 l0 x3_1 true) else (if (((rd_T25 l0 x3_1).f2).size : Int) > 120 then (reredosref08_Few.j2 kj1 l0 x3_1 true) else (if (((rd_T25 l0 x3_1).f3).size : Int) > 120 then (reredosref08_Few.j2 kj1 l0 x3_1 true) else (reredosref08_Few.j2 kj1 l0 x3_1 (decide ((((rd_T25 l0 x3_1).f4).length : Int) > 120)))))) else (none)) else (none)) = some r := by rw [if_pos rfl] at H; exact H
      clear H
      have H := H1
      clear H1
      have HC5 := am H
      clear H
      go_upto_region 4 with (fail)
      go_cut [48] (fun v48 wc => ∃ (kq : Nat) (x48_4 : Bool), v48 = .bool x48_4 ∧ Aside0 (reredosref08_Few.j2 kq l0 x3_1 x48_4 = some r) ∧ Aside0 (kq ≤ kj1) ∧ Drawn0 w wc)
      case first =>
       have H := HC5.out
       clear HC5
       by_cases c6 : 0 ≤ x3_1
       ·rw [if_pos c6] at H
        have c6b0 : decide (0 ≤ x3_1) = true := decide_eq_true c6
        clear c6
        (first | rw [c6b0] | (simp only [i64_w, i32_w]; rw [c6b0]) | skip)
        by_cases c7 : x3_1 < (l0.length : Int)
        ·rw [if_pos c7] at H
         have c7b0 : decide (x3_1 < (l0.length : Int)) = true := decide_eq_true c7
         clear c7
         by_cases c8 : (((rd_T25 l0 x3_1).f1).size : Int) > 120
         ·rw [if_pos c8] at H
          have c8b0 : decide (120 < (((rd_T25 l0 x3_1).f1).size : Int)) = true := decide_eq_true c8
          have c8b1 : decide (120 < ((rd_T25 l0 x3_1).f1).size) = true := decide_eq_true (by omega)
          clear c8
          have H' := am H
          clear H
          have p235 : 0 ≤ (x3_1 : Int) := of_decide_eq_true (by first | (with_reducible assumption) | assumption)
          have q235 : x3_1 < (l0.length : Int) := of_decide_eq_true (by first | (with_reducible assumption) | assumption)
          obtain ⟨ad235, A235_4, c235_4, e235, hx235_0, hx235_1, hx235_2, hx235_3, hx235_4, hl235_4, hi235_4⟩ := at_T25 HR0.out x3_1 p235 q235
          cases e235
          have HR235_4 := am hi235_4
          have HC235_4 := am hl235_4
          clear hi235_4 hl235_4
          replace p235 := eq_true p235
          replace q235 := eq_true q235
          go_wp2
          go_meet
          case rel => exact ⟨_, (true), (by first | rfl | (simp; done) | (simp [*]; done)), H', ⟨by have := HK1.out; have := HJ1.out; first | omega | exact Nat.le_refl _⟩, by repeat (first | exact Drawn0.refl _ | apply Drawn0.step)⟩
         ·rw [if_neg c8] at H
          have c8b0 : decide (120 < (((rd_T25 l0 x3_1).f1).size : Int)) = false := decide_eq_false c8
          have c8b1 : decide (120 < ((rd_T25 l0 x3_1).f1).size) = false := decide_eq_false (by omega)
          clear c8
          by_cases c9 : (((rd_T25 l0 x3_1).f2).size : Int) > 120
          ·rw [if_pos c9] at H
           have c9b0 : decide (120 < (((rd_T25 l0 x3_1).f2).size : Int)) = true := decide_eq_true c9
           have c9b1 : decide (120 < ((rd_T25 l0 x3_1).f2).size) = true := decide_eq_true (by omega)
           clear c9
           have H' := am H
           clear H
           have p235 : 0 ≤ (x3_1 : Int) := of_decide_eq_true (by first | (with_reducible assumption) | assumption)
           have q235 : x3_1 < (l0.length : Int) := of_decide_eq_true (by first | (with_reducible assumption) | assumption)
           obtain ⟨ad235, A235_4, c235_4, e235, hx235_0, hx235_1, hx235_2, hx235_3, hx235_4, hl235_4, hi235_4⟩ := at_T25 HR0.out x3_1 p235 q235
           cases e235
           have HR235_4 := am hi235_4
           have HC235_4 := am hl235_4
           clear hi235_4 hl235_4
           replace p235 := eq_true p235
           replace q235 := eq_true q235
           have p236 : 0 ≤ (x3_1 : Int) := of_decide_eq_true (by first | (with_reducible assumption) | assumption)
           have q236 : x3_1 < (l0.length : Int) := of_decide_eq_true (by first | (with_reducible assumption) | assumption)
           obtain ⟨ad236, A236_4, c236_4, e236, hx236_0, hx236_1, hx236_2, hx236_3, hx236_4, hl236_4, hi236_4⟩ := at_T25 HR0.out x3_1 p236 q236
           obtain rfl : ad235 = ad236 := (by injection e236)
           have HR236_4 := am hi236_4
           have HC236_4 := am hl236_4
           clear hi236_4 hl236_4
           replace p236 := eq_true p236
           replace q236 := eq_true q236
           have ea_ := Option.some.inj (hx235_4.symm.trans hx236_4)
           injection ea_ with ea_ en_ ec_
           subst ea_
           subst ec_
           clear en_
           go_wp2
           go_meet
           case rel => exact ⟨_, (true), (by first | rfl | (simp; done) | (simp [*]; done)), H', ⟨by have := HK1.out; have := HJ1.out; first | omega | exact Nat.le_refl _⟩, by repeat (first | exact Drawn0.refl _ | apply Drawn0.step)⟩
          ·rw [if_neg c9] at H
           have c9b0 : decide (120 < (((rd_T25 l0 x3_1).f2).size : Int)) = false := decide_eq_false c9
           have c9b1 : decide (120 < ((rd_T25 l0 x3_1).f2).size) = false := decide_eq_false (by omega)
           clear c9
           by_cases c10 : (((rd_T25 l0 x3_1).f3).size : Int) > 120
           ·rw [if_pos c10] at H
            have c10b0 : decide (120 < (((rd_T25 l0 x3_1).f3).size : Int)) = true := decide_eq_true c10
            have c10b1 : decide (120 < ((rd_T25 l0 x3_1).f3).size) = true := decide_eq_true (by omega)
            clear c10
            have H' := am H
            clear H
            have p235 : 0 ≤ (x3_1 : Int) := of_decide_eq_true (by first | (with_reducible assumption) | assumption)
            have q235 : x3_1 < (l0.length : Int) := of_decide_eq_true (by first | (with_reducible assumption) | assumption)
            obtain ⟨ad235, A235_4, c235_4, e235, hx235_0, hx235_1, hx235_2, hx235_3, hx235_4, hl235_4, hi235_4⟩ := at_T25 HR0.out x3_1 p235 q235
            cases e235
            have HR235_4 := am hi235_4
            have HC235_4 := am hl235_4
            clear hi235_4 hl235_4
            replace p235 := eq_true p235
            replace q235 := eq_true q235
            have p236 : 0 ≤ (x3_1 : Int) := of_decide_eq_true (by first | (with_reducible assumption) | assumption)
            have q236 : x3_1 < (l0.length : Int) := of_decide_eq_true (by first | (with_reducible assumption) | assumption)
            obtain ⟨ad236, A236_4, c236_4, e236, hx236_0, hx236_1, hx236_2, hx236_3, hx236_4, hl236_4, hi236_4⟩ := at_T25 HR0.out x3_1 p236 q236
            obtain rfl : ad235 = ad236 := (by injection e236)
            have HR236_4 := am hi236_4
            have HC236_4 := am hl236_4
            clear hi236_4 hl236_4
            replace p236 := eq_true p236
            replace q236 := eq_true q236
            have ea_ := Option.some.inj (hx235_4.symm.trans hx236_4)
            injection ea_ with ea_ en_ ec_
            subst ea_
            subst ec_
            clear en_
            have p237 : 0 ≤ (x3_1 : Int) := of_decide_eq_true (by first | (with_reducible assumption) | assumption)
            have q237 : x3_1 < (l0.length : Int) := of_decide_eq_true (by first | (with_reducible assumption) | assumption)
            obtain ⟨ad237, A237_4, c237_4, e237, hx237_0, hx237_1, hx237_2, hx237_3, hx237_4, hl237_4, hi237_4⟩ := at_T25 HR0.out x3_1 p237 q237
            obtain rfl : ad235 = ad237 := (by injection e237)
            have HR237_4 := am hi237_4
            have HC237_4 := am hl237_4
            clear hi237_4 hl237_4
            replace p237 := eq_true p237
            replace q237 := eq_true q237
            have ea_ := Option.some.inj (hx235_4.symm.trans hx237_4)
            injection ea_ with ea_ en_ ec_
            subst ea_
            subst ec_
            clear en_
            go_wp2
            go_meet
            case rel => exact ⟨_, (true), (by first | rfl | (simp; done) | (simp [*]; done)), H', ⟨by have := HK1.out; have := HJ1.out; first | omega | exact Nat.le_refl _⟩, by repeat (first | exact Drawn0.refl _ | apply Drawn0.step)⟩
           ·rw [if_neg c10] at H
            have c10b0 : decide (120 < (((rd_T25 l0 x3_1).f3).size : Int)) = false := decide_eq_false c10
            have c10b1 : decide (120 < ((rd_T25 l0 x3_1).f3).size) = false := decide_eq_false (by omega)
            clear c10
            have H' := am H
            clear H
            have p235 : 0 ≤ (x3_1 : Int) := of_decide_eq_true (by first | (with_reducible assumption) | assumption)
            have q235 : x3_1 < (l0.length : Int) := of_decide_eq_true (by first | (with_reducible assumption) | assumption)
            obtain ⟨ad235, A235_4, c235_4, e235, hx235_0, hx235_1, hx235_2, hx235_3, hx235_4, hl235_4, hi235_4⟩ := at_T25 HR0.out x3_1 p235 q235
            cases e235
            have HR235_4 := am hi235_4
            have HC235_4 := am hl235_4
            clear hi235_4 hl235_4
            replace p235 := eq_true p235
            replace q235 := eq_true q235
            have p236 : 0 ≤ (x3_1 : Int) := of_decide_eq_true (by first | (with_reducible assumption) | assumption)
            have q236 : x3_1 < (l0.length : Int) := of_decide_eq_true (by first | (with_reducible assumption) | assumption)
            obtain ⟨ad236, A236_4, c236_4, e236, hx236_0, hx236_1, hx236_2, hx236_3, hx236_4, hl236_4, hi236_4⟩ := at_T25 HR0.out x3_1 p236 q236
            obtain rfl : ad235 = ad236 := (by injection e236)
            have HR236_4 := am hi236_4
            have HC236_4 := am hl236_4
            clear hi236_4 hl236_4
            replace p236 := eq_true p236
            replace q236 := eq_true q236
            have ea_ := Option.some.inj (hx235_4.symm.trans hx236_4)
            injection ea_ with ea_ en_ ec_
            subst ea_
            subst ec_
            clear en_
            have p237 : 0 ≤ (x3_1 : Int) := of_decide_eq_true (by first | (with_reducible assumption) | assumption)
            have q237 : x3_1 < (l0.length : Int) := of_decide_eq_true (by first | (with_reducible assumption) | assumption)
            obtain ⟨ad237, A237_4, c237_4, e237, hx237_0, hx237_1, hx237_2, hx237_3, hx237_4, hl237_4, hi237_4⟩ := at_T25 HR0.out x3_1 p237 q237
            obtain rfl : ad235 = ad237 := (by injection e237)
            have HR237_4 := am hi237_4
            have HC237_4 := am hl237_4
            clear hi237_4 hl237_4
            replace p237 := eq_true p237
            replace q237 := eq_true q237
            have ea_ := Option.some.inj (hx235_4.symm.trans hx237_4)
            injection ea_ with ea_ en_ ec_
            subst ea_
            subst ec_
            clear en_
            have p238 : 0 ≤ (x3_1 : Int) := of_decide_eq_true (by first | (with_reducible assumption) | assumption)
            have q238 : x3_1 < (l0.length : Int) := of_decide_eq_true (by first | (with_reducible assumption) | assumption)
            obtain ⟨ad238, A238_4, c238_4, e238, hx238_0, hx238_1, hx238_2, hx238_3, hx238_4, hl238_4, hi238_4⟩ := at_T25 HR0.out x3_1 p238 q238
            obtain rfl : ad235 = ad238 := (by injection e238)
            have HR238_4 := am hi238_4
            have HC238_4 := am hl238_4
            clear hi238_4 hl238_4
            replace p238 := eq_true p238
            replace q238 := eq_true q238
            have ea_ := Option.some.inj (hx235_4.symm.trans hx238_4)
            injection ea_ with ea_ en_ ec_
            subst ea_
            subst ec_
            clear en_
            go_wp2
            go_meet
            case rel => exact ⟨_, (decide ((((rd_T25 l0 x3_1).f4).length : Int) > 120)), (by first | rfl | (simp; done) | (simp [*]; done)), H', ⟨by have := HK1.out; have := HJ1.out; first | omega | exact Nat.le_refl _⟩, by repeat (first | exact Drawn0.refl _ | apply Drawn0.step)⟩
        ·rw [if_neg c7] at H
         exact absurd H (by simp)
       ·rw [if_neg c6] at H
        exact absurd H (by simp)
      case rest =>
       clear HC5
       try clear c1
       try clear c2
       try clear p2
       try clear q2
       try clear hx2
       try clear c3
       try clear c3b0
       try clear c4
       try clear c6
       try clear c6b0
       try clear c7
       try clear c7b0
       try clear c8
       try clear c8b0
       try clear c8b1
       try clear c9
       try clear c9b0
       try clear c9b1
       try clear c10
       try clear c10b0
       try clear c10b1
       try clear hx235_0
       try clear hx235_1
       try clear hx235_2
       try clear hx235_3
       try clear hx235_4
       try clear hx236_0
       try clear hx236_1
       try clear hx236_2
       try clear hx236_3
       try clear hx236_4
       try clear hx237_0
       try clear hx237_1
       try clear hx237_2
       try clear hx237_3
       try clear hx237_4
       try clear hx238_0
       try clear hx238_1
       try clear hx238_2
       try clear hx238_3
       try clear hx238_4
       try clear p2
       try clear p235
       try clear p236
       try clear p237
       try clear p238
       try clear q235
       try clear q236
       try clear q237
       try clear q238
       obtain ⟨kq, x48_4, rfl, HA, HJ4, ⟨mc4, rfl⟩⟩ := hcut
       cases kq with
       | zero => exact absurd HA.out (by simp [reredosref08_Few.j2])
       | succ kj4 =>
        have H := HA.out
        clear HA
        simp only [reredosref08_Few.j2] at H
        by_cases c11 : x48_4 = true
        ·subst c11
         have H1 : (some false) = some r := by rw [if_pos rfl] at H; exact H
         clear H
         have H := H1
         clear H1
         obtain rfl := Option.some.inj H
         go_wp2
         go_ret
         exact ⟨by first | rfl | (simp; done) | (simp [*]; done), by repeat (first | exact Drawn0.refl _ | apply Drawn0.step)⟩
        ·replace c11 := Bool.eq_false_iff.mpr c11
         subst c11
         have H1 : (reredosref08_Few.l1 kj4 l0 x3_1 0) = some r := by rw [if_neg (show ¬ (false = true) by decide)] at H; exact H
         clear H
         have H := H1
         clear H1
         have H' := am H
         clear H
         go_wp2
         go_loopg [4] kj4 (fun kq v4 w' => ∃ (x4_4 : Int), v4 = .int .i64 x4_4 ∧ Aside0 (reredosref08_Few.l1 kq l0 x3_1 x4_4 = some r) ∧ Aside0 (kq ≤ kj4) ∧ Drawn0 w w')
         case atStart => exact ⟨(0), (by first | rfl | (simp; done) | (simp [*]; done)), H', ⟨Nat.le_refl _⟩, by repeat (first | exact Drawn0.refl _ | apply Drawn0.step)⟩
         case round =>
          clear H'
          try clear c1
          try clear c2
          try clear p2
          try clear q2
          try clear hx2
          try clear c3
          try clear c3b0
          try clear c4
          try clear c6
          try clear c6b0
          try clear c7
          try clear c7b0
          try clear c8
          try clear c8b0
          try clear c8b1
          try clear c9
          try clear c9b0
          try clear c9b1
          try clear c10
          try clear c10b0
          try clear c10b1
          try clear c11
          try clear hx235_0
          try clear hx235_1
          try clear hx235_2
          try clear hx235_3
          try clear hx235_4
          try clear hx236_0
          try clear hx236_1
          try clear hx236_2
          try clear hx236_3
          try clear hx236_4
          try clear hx237_0
          try clear hx237_1
          try clear hx237_2
          try clear hx237_3
          try clear hx237_4
          try clear hx238_0
          try clear hx238_1
          try clear hx238_2
          try clear hx238_3
          try clear hx238_4
          try clear p2
          try clear p235
          try clear p236
          try clear p237
          try clear p238
          try clear q2
          try clear q235
          try clear q236
          try clear q237
          try clear q238
          obtain ⟨x4_4, rfl, HA, HK4, ⟨m4, rfl⟩⟩ := hrel
          cases gk with
          | zero => exact absurd HA.out (by simp [reredosref08_Few.l1])
          | succ k4 =>
           have H := HA.out
           clear HA
           simp only [reredosref08_Few.l1] at H
           by_cases c12 : 0 ≤ x3_1
           ·rw [if_pos c12] at H
            have c12b0 : decide (0 ≤ x3_1) = true := decide_eq_true c12
            clear c12
            by_cases c13 : x3_1 < (l0.length : Int)
            ·rw [if_pos c13] at H
             have c13b0 : decide (x3_1 < (l0.length : Int)) = true := decide_eq_true c13
             clear c13
             by_cases c14 : x4_4 < (((rd_T25 l0 x3_1).f4).length : Int)
             ·rw [if_pos c14] at H
              have c14b0 : decide (x4_4 < (((rd_T25 l0 x3_1).f4).length : Int)) = true := decide_eq_true c14
              clear c14
              by_cases c15 : 0 ≤ x4_4
              ·rw [if_pos c15] at H
               have c15b0 : decide (0 ≤ x4_4) = true := decide_eq_true c15
               clear c15
               by_cases c16 : ((rdOf ByteArray.empty ((rd_T25 l0 x3_1).f4) x4_4).size : Int) > 120
               ·rw [if_pos c16] at H
                have c16b0 : decide (120 < ((rdOf ByteArray.empty ((rd_T25 l0 x3_1).f4) x4_4).size : Int)) = true := decide_eq_true c16
                have c16b1 : decide (120 < (rdOf ByteArray.empty ((rd_T25 l0 x3_1).f4) x4_4).size) = true := decide_eq_true (by omega)
                clear c16
                obtain rfl := Option.some.inj H
                have p239 : 0 ≤ (x3_1 : Int) := of_decide_eq_true (by first | (with_reducible assumption) | assumption)
                have q239 : x3_1 < (l0.length : Int) := of_decide_eq_true (by first | (with_reducible assumption) | assumption)
                obtain ⟨ad239, A239_4, c239_4, e239, hx239_0, hx239_1, hx239_2, hx239_3, hx239_4, hl239_4, hi239_4⟩ := at_T25 HR0.out x3_1 p239 q239
                cases e239
                have HR239_4 := am hi239_4
                have HC239_4 := am hl239_4
                clear hi239_4 hl239_4
                replace p239 := eq_true p239
                replace q239 := eq_true q239
                have p240 : 0 ≤ (x3_1 : Int) := of_decide_eq_true (by first | (with_reducible assumption) | assumption)
                have q240 : x3_1 < (l0.length : Int) := of_decide_eq_true (by first | (with_reducible assumption) | assumption)
                obtain ⟨ad240, A240_4, c240_4, e240, hx240_0, hx240_1, hx240_2, hx240_3, hx240_4, hl240_4, hi240_4⟩ := at_T25 HR0.out x3_1 p240 q240
                obtain rfl : ad239 = ad240 := (by injection e240)
                have HR240_4 := am hi240_4
                have HC240_4 := am hl240_4
                clear hi240_4 hl240_4
                replace p240 := eq_true p240
                replace q240 := eq_true q240
                have ea_ := Option.some.inj (hx239_4.symm.trans hx240_4)
                injection ea_ with ea_ en_ ec_
                subst ea_
                subst ec_
                clear en_
                have p241 : 0 ≤ (x4_4 : Int) := of_decide_eq_true (by first | (with_reducible assumption) | assumption)
                have q241 : x4_4 < (((rd_T25 l0 x3_1).f4).length : Int) := of_decide_eq_true (by first | (with_reducible assumption) | assumption)
                obtain ⟨ad241, e241, hx241_0⟩ := Kd.at_string HR240_4.out x4_4 p241 q241
                cases e241
                replace p241 := eq_true p241
                replace q241 := eq_true q241
                go_wp2
                go_ret
                exact ⟨by first | rfl | (simp; done) | (simp [*]; done), by repeat (first | exact Drawn0.refl _ | apply Drawn0.step)⟩
               ·rw [if_neg c16] at H
                have c16b0 : decide (120 < ((rdOf ByteArray.empty ((rd_T25 l0 x3_1).f4) x4_4).size : Int)) = false := decide_eq_false c16
                have c16b1 : decide (120 < (rdOf ByteArray.empty ((rd_T25 l0 x3_1).f4) x4_4).size) = false := decide_eq_false (by omega)
                clear c16
                have H' := am H
                clear H
                have p239 : 0 ≤ (x3_1 : Int) := of_decide_eq_true (by first | (with_reducible assumption) | assumption)
                have q239 : x3_1 < (l0.length : Int) := of_decide_eq_true (by first | (with_reducible assumption) | assumption)
                obtain ⟨ad239, A239_4, c239_4, e239, hx239_0, hx239_1, hx239_2, hx239_3, hx239_4, hl239_4, hi239_4⟩ := at_T25 HR0.out x3_1 p239 q239
                cases e239
                have HR239_4 := am hi239_4
                have HC239_4 := am hl239_4
                clear hi239_4 hl239_4
                replace p239 := eq_true p239
                replace q239 := eq_true q239
                have p240 : 0 ≤ (x3_1 : Int) := of_decide_eq_true (by first | (with_reducible assumption) | assumption)
                have q240 : x3_1 < (l0.length : Int) := of_decide_eq_true (by first | (with_reducible assumption) | assumption)
                obtain ⟨ad240, A240_4, c240_4, e240, hx240_0, hx240_1, hx240_2, hx240_3, hx240_4, hl240_4, hi240_4⟩ := at_T25 HR0.out x3_1 p240 q240
                obtain rfl : ad239 = ad240 := (by injection e240)
                have HR240_4 := am hi240_4
                have HC240_4 := am hl240_4
                clear hi240_4 hl240_4
                replace p240 := eq_true p240
                replace q240 := eq_true q240
                have ea_ := Option.some.inj (hx239_4.symm.trans hx240_4)
                injection ea_ with ea_ en_ ec_
                subst ea_
                subst ec_
                clear en_
                have p241 : 0 ≤ (x4_4 : Int) := of_decide_eq_true (by first | (with_reducible assumption) | assumption)
                have q241 : x4_4 < (((rd_T25 l0 x3_1).f4).length : Int) := of_decide_eq_true (by first | (with_reducible assumption) | assumption)
                obtain ⟨ad241, e241, hx241_0⟩ := Kd.at_string HR240_4.out x4_4 p241 q241
                cases e241
                replace p241 := eq_true p241
                replace q241 := eq_true q241
                go_wp2
                go_roundg k4
                case measure => have := HK1.out; have := HJ1.out; have := HJ4.out; have := HK4.out; omega
                case rel => exact ⟨(wrap64 (x4_4 + 1)), (by first | rfl | (simp; done) | (simp [*]; done)), H', ⟨by have := HK1.out; have := HJ1.out; have := HJ4.out; have := HK4.out; omega⟩, by repeat (first | exact Drawn0.refl _ | apply Drawn0.step)⟩
              ·rw [if_neg c15] at H
               exact absurd H (by simp)
             ·rw [if_neg c14] at H
              have c14b0 : decide (x4_4 < (((rd_T25 l0 x3_1).f4).length : Int)) = false := decide_eq_false c14
              clear c14
              have H' := am H
              clear H
              have p239 : 0 ≤ (x3_1 : Int) := of_decide_eq_true (by first | (with_reducible assumption) | assumption)
              have q239 : x3_1 < (l0.length : Int) := of_decide_eq_true (by first | (with_reducible assumption) | assumption)
              obtain ⟨ad239, A239_4, c239_4, e239, hx239_0, hx239_1, hx239_2, hx239_3, hx239_4, hl239_4, hi239_4⟩ := at_T25 HR0.out x3_1 p239 q239
              cases e239
              have HR239_4 := am hi239_4
              have HC239_4 := am hl239_4
              clear hi239_4 hl239_4
              replace p239 := eq_true p239
              replace q239 := eq_true q239
              go_wp2
              go_roundg k4
              case measure => have := HK1.out; have := HJ1.out; have := HJ4.out; have := HK4.out; omega
              case rel => exact ⟨(wrap64 (x3_1 + 1)), (by first | rfl | (simp; done) | (simp [*]; done)), H', ⟨by have := HK1.out; have := HJ1.out; have := HJ4.out; have := HK4.out; omega⟩, by repeat (first | exact Drawn0.refl _ | apply Drawn0.step)⟩
            ·rw [if_neg c13] at H
             exact absurd H (by simp)
           ·rw [if_neg c12] at H
            exact absurd H (by simp)
     ·replace c4 := Bool.eq_false_iff.mpr c4
      subst c4
      have H1 : (some (decide ((l0.length : Int) ≤ 80))) = some r := by rw [if_neg (show ¬ (false = true) by decide)] at H; exact H
      clear H
      have H := H1
      clear H1
      obtain rfl := Option.some.inj H
      go_wp2
      go_ret
      exact ⟨by first | rfl | (simp; done) | (simp [*]; done), by repeat (first | exact Drawn0.refl _ | apply Drawn0.step)⟩
end Go.Proofs.Ytdelccahgchadaa.P
end
section
namespace Go.Proofs.Ytdelccahgchadaa.P
open Go.RowKit Go.Proofs.YtdelccahgchadaaW.PrintWords Go.Proofs.YtdelccahgchadaaW.PrintLast Go.Proofs.YtdelccahgchadaaW.PrintMore
attribute [local go_sem] max2_int min2_int max_two min_two max_three min_three max_four min_four   
set_option linter.unusedVariables false
set_option linter.unusedSimpArgs false
def reredosref08_Kids.j0 : Nat → List Int → Bool → Int → ByteArray → ByteArray → ByteArray → List ByteArray → Option (Int)
 | 0, _, _, _, _, _, _, _ => none
 | k + 1, x3, x12, x243000, x243001, x243002, x243003, x243004 => if x12 = true then (some (-1)) else (if x243000 = 3 then (if x243001.toList = ([123] : List UInt8) then (if 0 ≤ x243000 then (if x243000 < (x3.length : Int) then (some (wrap64 ((rd x3 x243000) + 1))) else (none)) else (none)) else (if 0 ≤ x243000 then (if x243000 < (x3.length : Int) then (some (rd x3 x243000)) else (none)) else (none))) else (if x243000 = 4 then (if x243001.toList = ([123] : List UInt8) then (if 0 ≤ x243000 then (if x243000 < (x3.length : Int) then (some (wrap64 ((rd x3 x243000) + 1))) else (none)) else (none)) else (if 0 ≤ x243000 then (if x243000 < (x3.length : Int) then (some (rd x3 x243000)) else (none)) else (none))) else (if 0 ≤ x243000 then (if x243000 < (x3.length : Int) then (some (rd x3 x243000)) else (none)) else (none))))
def reredosref08_Kids.f (k : Nat) (a0_0 : Int) (a0_1 : ByteArray) (a0_2 : ByteArray) (a0_3 : ByteArray) (l0_4 : List ByteArray) : Option (Int) := (some (([(-1), 0, 0, 1, 2, 1, 2, 1, 2] : List Int) : List Int)).bind fun y243 => (if a0_0 < 1 then (reredosref08_Kids.j0 k y243 true a0_0 a0_1 a0_2 a0_3 l0_4) else (reredosref08_Kids.j0 k y243 (decide (a0_0 > 8)) a0_0 a0_1 a0_2 a0_3 l0_4))
theorem reredosref08_Kids.mono_l : ∀ k, (∀ y0 y1 y2 y3 y4 y5 y6, LeO (reredosref08_Kids.j0 k y0 y1 y2 y3 y4 y5 y6) (reredosref08_Kids.j0 (k + 1) y0 y1 y2 y3 y4 y5 y6))
 | 0 => fun _ _ _ _ _ _ _ r h => by simp [reredosref08_Kids.j0] at h
 | k + 1 => by
  have ih0 := reredosref08_Kids.mono_l k
  ·intro y0 y1 y2 y3 y4 y5 y6
   unfold reredosref08_Kids.j0
   repeat' first
   | (with_reducible exact ih0 _ _ _ _ _ _ _)
   | (with_reducible exact LeO.refl _)
   | (with_reducible exact LeO.none _)
   | (with_reducible refine LeO.ite ?_ ?_)
   | (with_reducible refine LeO.bind ?_ (fun _ => ?_))
   | exact ih0 _ _ _ _ _ _ _
   | exact LeO.none _
   | refine LeO.ite ?_ ?_
   | refine LeO.bind ?_ (fun _ => ?_)
theorem reredosref08_Kids.mono : ∀ a0 a1 a2 a3 a4 k, LeO (reredosref08_Kids.f k a0 a1 a2 a3 a4) (reredosref08_Kids.f (k + 1) a0 a1 a2 a3 a4) := by
 intro a0 a1 a2 a3 a4 k
 have ih0 := reredosref08_Kids.mono_l k
 unfold reredosref08_Kids.f
 repeat' first
   | (with_reducible exact ih0 _ _ _ _ _ _ _)
   | (with_reducible exact LeO.refl _)
   | (with_reducible exact LeO.none _)
   | (with_reducible refine LeO.ite ?_ ?_)
   | (with_reducible refine LeO.bind ?_ (fun _ => ?_))
   | exact ih0 _ _ _ _ _ _ _
   | exact LeO.none _
   | refine LeO.ite ?_ ?_
   | refine LeO.bind ?_ (fun _ => ?_)
set_option maxHeartbeats 8000000 in
set_option maxRecDepth 100000 in
theorem reredosref08_Kids.calls (k : Nat) (a0_0 : Int) (a0_1 : ByteArray) (a0_2 : ByteArray) (a0_3 : ByteArray) (A0_4 : Option Addr) (c0_4 : Nat) (l0_4 : List ByteArray) (r : Int) (w : World) (hr0_4 : Kd.C Kd.string w A0_4 l0_4.length l0_4) (hc0_4 : l0_4.length ≤ c0_4) (h : reredosref08_Kids.f k a0_0 a0_1 a0_2 a0_3 l0_4 = some r) :
  Calls Try.prog 22 #[.agg #[.int .i64 a0_0, .string a0_1, .string a0_2, .string a0_3, .slice A0_4 l0_4.length c0_4]] w fun e w' => e = .returned (.int .i64 r) ∧ Below w.heap.size w w' := by
 have hu25 := Try.underlying25
 have HR0_4 := am hr0_4
 have HC0_4 := am hc0_4
 clear hr0_4 hc0_4
 have HB := am (Below.refl w.heap.size w)
 have H : ((some (([(-1), 0, 0, 1, 2, 1, 2, 1, 2] : List Int) : List Int)).bind fun y243 => (if a0_0 < 1 then (reredosref08_Kids.j0 k y243 true a0_0 a0_1 a0_2 a0_3 l0_4) else (reredosref08_Kids.j0 k y243 (decide (a0_0 > 8)) a0_0 a0_1 a0_2 a0_3 l0_4))) = some r := h
 clear h
 obtain ⟨y243, hy243⟩ : ∃ y_ : List Int, y_ = (([(-1), 0, 0, 1, 2, 1, 2, 1, 2] : List Int)) := ⟨_, rfl⟩
 replace H : (if a0_0 < 1 then (reredosref08_Kids.j0 k y243 true a0_0 a0_1 a0_2 a0_3 l0_4) else (reredosref08_Kids.j0 k y243 (decide (a0_0 > 8)) a0_0 a0_1 a0_2 a0_3 l0_4)) = some r := by first | (rw [hy243]; with_reducible exact H) | (have H2_ := (Option.bind_some _ _).symm.trans H; rw [hy243]; with_reducible exact H2_) | (have H2_ := (Option.bind_some _ _).symm.trans H; with_reducible exact H2_) | with_reducible exact H | (rw [hy243]; exact H) | exact H
 have Ny243 := am hy243
 clear hy243
 have HC2 := am H
 clear H
 go_enter Try.func22, Try.ntmps22
 go_upto_region 2 with (first | ((with_reducible refine gate_dst (N := 1) rfl ?_); refine box_event ?hg (N := 1) ?hd (cs := #[.int .i64 a0_0, .string a0_1, .string a0_2, .string a0_3, .slice A0_4 l0_4.length c0_4]) (t := 25) ?hr ?_; (case hd => rfl); (case hg => rfl); (case hr => first | (go_simp; done) | (go_simp; rfl)); intro gb242 hg w3 hbox hb; have n0_ := am (below_step (by repeat (first | (with_reducible first | exact HB.out | apply lA | apply lN | apply lD) | exact HB.out)) hb); have n1_ := am (hbox); have n2_ := am ((by rw [hg]; exact (below_size (by repeat (first | (with_reducible first | exact HB.out | apply lA | apply lN | apply lD) | exact HB.out))) : w.heap.size ≤ gb242)); have n3_ := n2_; clear HB; have HB := n0_; have BK242 := n1_; have GW242 := n2_; have GE242 := n3_; clear n0_ n1_ n2_ n3_; clear hb hbox hg) | ((with_reducible refine gate_dst (N := 4) rfl ?_); refine Kd.R_lit (Kd.int .i64) _ 3 ?hg (N := 4) ?hd (xs := ([(-1), 0, 0, 1, 2, 1, 2, 1, 2] : List Int)) (inner := [.int .i64 (-1), .int .i64 0, .int .i64 0, .int .i64 1, .int .i64 2, .int .i64 1, .int .i64 2, .int .i64 1, .int .i64 2]) (ok := fun _ => True) (okp := fun _ => True) ?hr ?hp (fun _ hk => hk) trivial (Below.refl _ _) (Nat.le_refl _) (by simp) ?_; (case hd => rfl); (case hg => rfl); (case hr => first | (go_simp; done) | (go_simp; rfl)); (case hp => exact (Reps.one (show Kd.M (Kd.int .i64) _ _ _ (-1) [.int .i64 (-1)] from rfl) (Reps.one (show Kd.M (Kd.int .i64) _ _ _ 0 [.int .i64 0] from rfl) (Reps.one (show Kd.M (Kd.int .i64) _ _ _ 0 [.int .i64 0] from rfl) (Reps.one (show Kd.M (Kd.int .i64) _ _ _ 1 [.int .i64 1] from rfl) (Reps.one (show Kd.M (Kd.int .i64) _ _ _ 2 [.int .i64 2] from rfl) (Reps.one (show Kd.M (Kd.int .i64) _ _ _ 1 [.int .i64 1] from rfl) (Reps.one (show Kd.M (Kd.int .i64) _ _ _ 2 [.int .i64 2] from rfl) (Reps.one (show Kd.M (Kd.int .i64) _ _ _ 1 [.int .i64 1] from rfl) (Reps.one (show Kd.M (Kd.int .i64) _ _ _ 2 [.int .i64 2] from rfl) (Reps.none _ _))))))))))); intro v244 w4 ho5 hb hg_ hnew_; clear hg_ hnew_; (first | rw [← Ny243.out] at ho5 | (simp only [Int.reduceToNat] at ho5; rw [← Ny243.out] at ho5)); have n0_ := am (Kd.R_lower ho5 (below_size (by repeat (first | (with_reducible first | exact HB.out | apply lA | apply lN | apply lD | refine below_set ?_ GE242.out) | exact HB.out)))); have n1_ := am (bB (g := gb242) (o := .cells #[.int .i64 a0_0, .string a0_1, .string a0_2, .string a0_3, .slice A0_4 l0_4.length c0_4] 25 (0, 0)) (by (with_reducible repeat (first | refine bN ?_ _ | refine bD ?_ | refine bA ?_ _)); exact BK242.out) hb); have n2_ := am (below_step (by repeat (first | (with_reducible first | exact HB.out | apply lA | apply lN | apply lD | refine below_set ?_ GE242.out) | exact HB.out)) hb); clear BK242; clear HB; have HO245 := n0_; have BK242 := n1_; have HB := n2_; clear n0_ n1_ n2_; clear hb ho5))
 (try simp only [Act.put, zT, z0, zS])
 go_cut [12] (fun v12 wc => ∃ (kq : Nat) (x12_1 : Bool), v12 = .bool x12_1 ∧ Aside0 (reredosref08_Kids.j0 kq y243 x12_1 a0_0 a0_1 a0_2 a0_3 l0_4 = some r) ∧ Aside0 (kq ≤ k) ∧ Aside0 (Kd.R (Kd.int .i64) 3 wc w.heap.size (fun _ => True) v244 y243) ∧ Aside0 (wc.heap[gb242]? = some (.cells #[.int .i64 a0_0, .string a0_1, .string a0_2, .string a0_3, (.slice A0_4 l0_4.length c0_4)] 25 (0, 0))) ∧ Aside0 (Below w.heap.size w wc))
 case first =>
  have H := HC2.out
  clear HC2
  by_cases c6 : a0_0 < 1
  ·rw [if_pos c6] at H
   have c6b0 : decide (a0_0 < 1) = true := decide_eq_true c6
   clear c6
   (first | rw [c6b0] | (simp only [i64_w, i32_w]; rw [c6b0]) | skip)
   have H' := am H
   clear H
   have hcz7_0 : w4.cell? ⟨gb242, 0, none⟩ = some (.int .i64 a0_0) := (blk_cell BK242.out 0).trans rfl
   have hcz7_1 : w4.cell? ⟨gb242, 1, none⟩ = some (.string a0_1) := (blk_cell BK242.out 1).trans rfl
   have hcz7_2 : w4.cell? ⟨gb242, 2, none⟩ = some (.string a0_2) := (blk_cell BK242.out 2).trans rfl
   have hcz7_3 : w4.cell? ⟨gb242, 3, none⟩ = some (.string a0_3) := (blk_cell BK242.out 3).trans rfl
   have hcz7_4 : w4.cell? ⟨gb242, 4, none⟩ = some (.slice A0_4 l0_4.length c0_4) := (blk_cell BK242.out 4).trans rfl
   have hfz7_0 := blk_frozen BK242.out 0
   have hfz7_1 := blk_frozen BK242.out 1
   have hfz7_2 := blk_frozen BK242.out 2
   have hfz7_3 := blk_frozen BK242.out 3
   have hfz7_4 := blk_frozen BK242.out 4
   go_wp2
   go_meet
   case rel => exact ⟨_, (true), (by first | rfl | (simp; done) | (simp [*]; done)), H', ⟨by first | omega | exact Nat.le_refl _⟩, ⟨by (with_reducible repeat (first | apply Kd.R_alloc | apply Kd.R_drewN | apply Kd.R_drew)); exact HO245.out⟩, ⟨by (with_reducible repeat (first | refine bN ?_ _ | refine bD ?_ | refine bA ?_ _)); exact BK242.out⟩, ⟨by repeat (first | (with_reducible first | exact HB.out | apply lA | apply lN | apply lD | refine below_set ?_ GE242.out) | exact HB.out)⟩⟩
  ·rw [if_neg c6] at H
   have c6b0 : decide (a0_0 < 1) = false := decide_eq_false c6
   clear c6
   (first | rw [c6b0] | (simp only [i64_w, i32_w]; rw [c6b0]) | skip)
   have H' := am H
   clear H
   have hcz8_0 : w4.cell? ⟨gb242, 0, none⟩ = some (.int .i64 a0_0) := (blk_cell BK242.out 0).trans rfl
   have hcz8_1 : w4.cell? ⟨gb242, 1, none⟩ = some (.string a0_1) := (blk_cell BK242.out 1).trans rfl
   have hcz8_2 : w4.cell? ⟨gb242, 2, none⟩ = some (.string a0_2) := (blk_cell BK242.out 2).trans rfl
   have hcz8_3 : w4.cell? ⟨gb242, 3, none⟩ = some (.string a0_3) := (blk_cell BK242.out 3).trans rfl
   have hcz8_4 : w4.cell? ⟨gb242, 4, none⟩ = some (.slice A0_4 l0_4.length c0_4) := (blk_cell BK242.out 4).trans rfl
   have hfz8_0 := blk_frozen BK242.out 0
   have hfz8_1 := blk_frozen BK242.out 1
   have hfz8_2 := blk_frozen BK242.out 2
   have hfz8_3 := blk_frozen BK242.out 3
   have hfz8_4 := blk_frozen BK242.out 4
   go_wp2
   go_meet
   case rel => exact ⟨_, (decide (a0_0 > 8)), (by first | rfl | (simp; done) | (simp [*]; done)), H', ⟨by first | omega | exact Nat.le_refl _⟩, ⟨by (with_reducible repeat (first | apply Kd.R_alloc | apply Kd.R_drewN | apply Kd.R_drew)); exact HO245.out⟩, ⟨by (with_reducible repeat (first | refine bN ?_ _ | refine bD ?_ | refine bA ?_ _)); exact BK242.out⟩, ⟨by repeat (first | (with_reducible first | exact HB.out | apply lA | apply lN | apply lD | refine below_set ?_ GE242.out) | exact HB.out)⟩⟩
 case rest =>
  clear HC2
  try clear c2
  try clear p2
  try clear c6
  try clear c6b0
  try clear hcz7_0
  try clear hcz7_1
  try clear hcz7_2
  try clear hcz7_3
  try clear hcz7_4
  try clear hcz8_0
  try clear hcz8_1
  try clear hcz8_2
  try clear hcz8_3
  try clear hcz8_4
  try clear hfz7_0
  try clear hfz7_1
  try clear hfz7_2
  try clear hfz7_3
  try clear hfz7_4
  try clear hfz8_0
  try clear hfz8_1
  try clear hfz8_2
  try clear hfz8_3
  try clear hfz8_4
  obtain ⟨kq, x12_1, rfl, HA, HJ1, HO_3, BK242, HB⟩ := hcut
  cases kq with
  | zero => exact absurd HA.out (by simp [reredosref08_Kids.j0])
  | succ kj1 =>
   have H := HA.out
   clear HA
   simp only [reredosref08_Kids.j0] at H
   by_cases c9 : x12_1 = true
   ·subst c9
    have H1 : (some (-1)) = some r := by rw [if_pos rfl] at H; exact H
    clear H
    have H := H1
    clear H1
    obtain rfl := Option.some.inj H
    go_wp2
    go_ret
    exact ⟨by first | rfl | (simp [errW_none, errW_some] <;> rfl) | (simp [*, errW_none, errW_some] <;> rfl), by repeat (first | (with_reducible first | exact HB.out | apply lA | apply lN | apply lD | refine below_set ?_ GE242.out) | exact HB.out)⟩
   ·replace c9 := Bool.eq_false_iff.mpr c9
    subst c9
    have H1 : (if a0_0 = 3 then (if a0_1.toList = ([123] : List UInt8) then (if 0 ≤ a0_0 then (if a0_0 < (y243.length : Int) then (some (wrap64 ((rd y243 a0_0) + 1))) else (none)) else (none)) else (if 0 ≤ a0_0 then (if a0_0 < (y243.length : Int) then (some (rd y243 a0_0)) else (none)) else (none))) else (if a0_0 = 4 then (if a0_1.toList = ([123] : List UInt8) then (if 0 ≤ a0_0 then (if a0_0 < (y243.length : Int) then (some (wrap64 ((rd y243 a0_0) + 1))) else (none)) else (none)) else (if 0 ≤ a0_0 then (if a0_0 < (y243.length : Int) then (some (rd y243 a0_0)) else (none)) else (none))) else (if 0 ≤ a0_0 then (if a0_0 < (y243.length : Int) then (some (rd y243 a0_0)) else (none)) else (none)))) = some r := by rw [if_neg (show ¬ (false = true) by decide)] at H; exact H
    clear H
    have H := H1
    clear H1
    by_cases c10 : a0_0 = 3
    ·rw [if_pos c10] at H
     have c10b0 : (a0_0 == 3) = true := beq_iff_eq.mpr c10
     have c10b1 : (a0_0 != 3) = false := bne_eq_false_iff_eq.mpr c10
     clear c10
     by_cases c11 : a0_1.toList = ([123] : List UInt8)
     ·rw [if_pos c11] at H
      have c11b0 : (a0_1.toList == ([123] : List UInt8)) = true := beq_iff_eq.mpr c11
      have c11b1 : (a0_1.toList != ([123] : List UInt8)) = false := bne_eq_false_iff_eq.mpr c11
      clear c11
      by_cases c12 : 0 ≤ a0_0
      ·rw [if_pos c12] at H
       have c12b0 : decide (0 ≤ a0_0) = true := decide_eq_true c12
       clear c12
       by_cases c13 : a0_0 < (y243.length : Int)
       ·rw [if_pos c13] at H
        have c13b0 : decide (a0_0 < (y243.length : Int)) = true := decide_eq_true c13
        clear c13
        obtain rfl := Option.some.inj H
        have hcz14_0 : wc.cell? ⟨gb242, 0, none⟩ = some (.int .i64 a0_0) := (blk_cell BK242.out 0).trans rfl
        have hcz14_1 : wc.cell? ⟨gb242, 1, none⟩ = some (.string a0_1) := (blk_cell BK242.out 1).trans rfl
        have hcz14_2 : wc.cell? ⟨gb242, 2, none⟩ = some (.string a0_2) := (blk_cell BK242.out 2).trans rfl
        have hcz14_3 : wc.cell? ⟨gb242, 3, none⟩ = some (.string a0_3) := (blk_cell BK242.out 3).trans rfl
        have hcz14_4 : wc.cell? ⟨gb242, 4, none⟩ = some (.slice A0_4 l0_4.length c0_4) := (blk_cell BK242.out 4).trans rfl
        have hfz14_0 := blk_frozen BK242.out 0
        have hfz14_1 := blk_frozen BK242.out 1
        have hfz14_2 := blk_frozen BK242.out 2
        have hfz14_3 := blk_frozen BK242.out 3
        have hfz14_4 := blk_frozen BK242.out 4
        obtain ⟨Ao15, co15, eo15⟩ := Kd.R_slice HO_3.out
        subst eo15
        have p246 : 0 ≤ (a0_0 : Int) := of_decide_eq_true (by first | (with_reducible assumption) | assumption)
        have q246 : a0_0 < (y243.length : Int) := of_decide_eq_true (by first | (with_reducible assumption) | assumption)
        obtain ⟨ad246, e246, hx246_0⟩ := Kd.at_int (Kd.R_reads' HO_3.out).2.2 a0_0 p246 q246
        cases e246
        replace p246 := eq_true p246
        replace q246 := eq_true q246
        go_wp2
        go_ret
        exact ⟨by first | rfl | (simp [errW_none, errW_some] <;> rfl) | (simp [*, errW_none, errW_some] <;> rfl), by repeat (first | (with_reducible first | exact HB.out | apply lA | apply lN | apply lD | refine below_set ?_ GE242.out) | exact HB.out)⟩
       ·rw [if_neg c13] at H
        exact absurd H (by simp)
      ·rw [if_neg c12] at H
       exact absurd H (by simp)
     ·rw [if_neg c11] at H
      have c11b0 : (a0_1.toList == ([123] : List UInt8)) = false := beq_eq_false_iff_ne.mpr c11
      have c11b1 : (a0_1.toList != ([123] : List UInt8)) = true := bne_iff_ne.mpr c11
      by_cases c16 : 0 ≤ a0_0
      ·rw [if_pos c16] at H
       have c16b0 : decide (0 ≤ a0_0) = true := decide_eq_true c16
       clear c16
       by_cases c17 : a0_0 < (y243.length : Int)
       ·rw [if_pos c17] at H
        have c17b0 : decide (a0_0 < (y243.length : Int)) = true := decide_eq_true c17
        clear c17
        obtain rfl := Option.some.inj H
        have hcz18_0 : wc.cell? ⟨gb242, 0, none⟩ = some (.int .i64 a0_0) := (blk_cell BK242.out 0).trans rfl
        have hcz18_1 : wc.cell? ⟨gb242, 1, none⟩ = some (.string a0_1) := (blk_cell BK242.out 1).trans rfl
        have hcz18_2 : wc.cell? ⟨gb242, 2, none⟩ = some (.string a0_2) := (blk_cell BK242.out 2).trans rfl
        have hcz18_3 : wc.cell? ⟨gb242, 3, none⟩ = some (.string a0_3) := (blk_cell BK242.out 3).trans rfl
        have hcz18_4 : wc.cell? ⟨gb242, 4, none⟩ = some (.slice A0_4 l0_4.length c0_4) := (blk_cell BK242.out 4).trans rfl
        have hfz18_0 := blk_frozen BK242.out 0
        have hfz18_1 := blk_frozen BK242.out 1
        have hfz18_2 := blk_frozen BK242.out 2
        have hfz18_3 := blk_frozen BK242.out 3
        have hfz18_4 := blk_frozen BK242.out 4
        obtain ⟨Ao19, co19, eo19⟩ := Kd.R_slice HO_3.out
        subst eo19
        have p247 : 0 ≤ (a0_0 : Int) := of_decide_eq_true (by first | (with_reducible assumption) | assumption)
        have q247 : a0_0 < (y243.length : Int) := of_decide_eq_true (by first | (with_reducible assumption) | assumption)
        obtain ⟨ad247, e247, hx247_0⟩ := Kd.at_int (Kd.R_reads' HO_3.out).2.2 a0_0 p247 q247
        cases e247
        replace p247 := eq_true p247
        replace q247 := eq_true q247
        go_wp2
        go_ret
        exact ⟨by first | rfl | (simp [errW_none, errW_some] <;> rfl) | (simp [*, errW_none, errW_some] <;> rfl), by repeat (first | (with_reducible first | exact HB.out | apply lA | apply lN | apply lD | refine below_set ?_ GE242.out) | exact HB.out)⟩
       ·rw [if_neg c17] at H
        exact absurd H (by simp)
      ·rw [if_neg c16] at H
       exact absurd H (by simp)
    ·rw [if_neg c10] at H
     have c10b0 : (a0_0 == 3) = false := beq_eq_false_iff_ne.mpr c10
     have c10b1 : (a0_0 != 3) = true := bne_iff_ne.mpr c10
     by_cases c20 : a0_0 = 4
     ·rw [if_pos c20] at H
      have c20b0 : (a0_0 == 4) = true := beq_iff_eq.mpr c20
      have c20b1 : (a0_0 != 4) = false := bne_eq_false_iff_eq.mpr c20
      clear c20
      by_cases c21 : a0_1.toList = ([123] : List UInt8)
      ·rw [if_pos c21] at H
       have c21b0 : (a0_1.toList == ([123] : List UInt8)) = true := beq_iff_eq.mpr c21
       have c21b1 : (a0_1.toList != ([123] : List UInt8)) = false := bne_eq_false_iff_eq.mpr c21
       clear c21
       by_cases c22 : 0 ≤ a0_0
       ·rw [if_pos c22] at H
        have c22b0 : decide (0 ≤ a0_0) = true := decide_eq_true c22
        clear c22
        by_cases c23 : a0_0 < (y243.length : Int)
        ·rw [if_pos c23] at H
         have c23b0 : decide (a0_0 < (y243.length : Int)) = true := decide_eq_true c23
         clear c23
         obtain rfl := Option.some.inj H
         have hcz24_0 : wc.cell? ⟨gb242, 0, none⟩ = some (.int .i64 a0_0) := (blk_cell BK242.out 0).trans rfl
         have hcz24_1 : wc.cell? ⟨gb242, 1, none⟩ = some (.string a0_1) := (blk_cell BK242.out 1).trans rfl
         have hcz24_2 : wc.cell? ⟨gb242, 2, none⟩ = some (.string a0_2) := (blk_cell BK242.out 2).trans rfl
         have hcz24_3 : wc.cell? ⟨gb242, 3, none⟩ = some (.string a0_3) := (blk_cell BK242.out 3).trans rfl
         have hcz24_4 : wc.cell? ⟨gb242, 4, none⟩ = some (.slice A0_4 l0_4.length c0_4) := (blk_cell BK242.out 4).trans rfl
         have hfz24_0 := blk_frozen BK242.out 0
         have hfz24_1 := blk_frozen BK242.out 1
         have hfz24_2 := blk_frozen BK242.out 2
         have hfz24_3 := blk_frozen BK242.out 3
         have hfz24_4 := blk_frozen BK242.out 4
         obtain ⟨Ao25, co25, eo25⟩ := Kd.R_slice HO_3.out
         subst eo25
         have p248 : 0 ≤ (a0_0 : Int) := of_decide_eq_true (by first | (with_reducible assumption) | assumption)
         have q248 : a0_0 < (y243.length : Int) := of_decide_eq_true (by first | (with_reducible assumption) | assumption)
         obtain ⟨ad248, e248, hx248_0⟩ := Kd.at_int (Kd.R_reads' HO_3.out).2.2 a0_0 p248 q248
         cases e248
         replace p248 := eq_true p248
         replace q248 := eq_true q248
         go_wp2
         go_ret
         exact ⟨by first | rfl | (simp [errW_none, errW_some] <;> rfl) | (simp [*, errW_none, errW_some] <;> rfl), by repeat (first | (with_reducible first | exact HB.out | apply lA | apply lN | apply lD | refine below_set ?_ GE242.out) | exact HB.out)⟩
        ·rw [if_neg c23] at H
         exact absurd H (by simp)
       ·rw [if_neg c22] at H
        exact absurd H (by simp)
      ·rw [if_neg c21] at H
       have c21b0 : (a0_1.toList == ([123] : List UInt8)) = false := beq_eq_false_iff_ne.mpr c21
       have c21b1 : (a0_1.toList != ([123] : List UInt8)) = true := bne_iff_ne.mpr c21
       by_cases c26 : 0 ≤ a0_0
       ·rw [if_pos c26] at H
        have c26b0 : decide (0 ≤ a0_0) = true := decide_eq_true c26
        clear c26
        by_cases c27 : a0_0 < (y243.length : Int)
        ·rw [if_pos c27] at H
         have c27b0 : decide (a0_0 < (y243.length : Int)) = true := decide_eq_true c27
         clear c27
         obtain rfl := Option.some.inj H
         have hcz28_0 : wc.cell? ⟨gb242, 0, none⟩ = some (.int .i64 a0_0) := (blk_cell BK242.out 0).trans rfl
         have hcz28_1 : wc.cell? ⟨gb242, 1, none⟩ = some (.string a0_1) := (blk_cell BK242.out 1).trans rfl
         have hcz28_2 : wc.cell? ⟨gb242, 2, none⟩ = some (.string a0_2) := (blk_cell BK242.out 2).trans rfl
         have hcz28_3 : wc.cell? ⟨gb242, 3, none⟩ = some (.string a0_3) := (blk_cell BK242.out 3).trans rfl
         have hcz28_4 : wc.cell? ⟨gb242, 4, none⟩ = some (.slice A0_4 l0_4.length c0_4) := (blk_cell BK242.out 4).trans rfl
         have hfz28_0 := blk_frozen BK242.out 0
         have hfz28_1 := blk_frozen BK242.out 1
         have hfz28_2 := blk_frozen BK242.out 2
         have hfz28_3 := blk_frozen BK242.out 3
         have hfz28_4 := blk_frozen BK242.out 4
         obtain ⟨Ao29, co29, eo29⟩ := Kd.R_slice HO_3.out
         subst eo29
         have p249 : 0 ≤ (a0_0 : Int) := of_decide_eq_true (by first | (with_reducible assumption) | assumption)
         have q249 : a0_0 < (y243.length : Int) := of_decide_eq_true (by first | (with_reducible assumption) | assumption)
         obtain ⟨ad249, e249, hx249_0⟩ := Kd.at_int (Kd.R_reads' HO_3.out).2.2 a0_0 p249 q249
         cases e249
         replace p249 := eq_true p249
         replace q249 := eq_true q249
         go_wp2
         go_ret
         exact ⟨by first | rfl | (simp [errW_none, errW_some] <;> rfl) | (simp [*, errW_none, errW_some] <;> rfl), by repeat (first | (with_reducible first | exact HB.out | apply lA | apply lN | apply lD | refine below_set ?_ GE242.out) | exact HB.out)⟩
        ·rw [if_neg c27] at H
         exact absurd H (by simp)
       ·rw [if_neg c26] at H
        exact absurd H (by simp)
     ·rw [if_neg c20] at H
      have c20b0 : (a0_0 == 4) = false := beq_eq_false_iff_ne.mpr c20
      have c20b1 : (a0_0 != 4) = true := bne_iff_ne.mpr c20
      by_cases c30 : 0 ≤ a0_0
      ·rw [if_pos c30] at H
       have c30b0 : decide (0 ≤ a0_0) = true := decide_eq_true c30
       clear c30
       by_cases c31 : a0_0 < (y243.length : Int)
       ·rw [if_pos c31] at H
        have c31b0 : decide (a0_0 < (y243.length : Int)) = true := decide_eq_true c31
        clear c31
        obtain rfl := Option.some.inj H
        have hcz32_0 : wc.cell? ⟨gb242, 0, none⟩ = some (.int .i64 a0_0) := (blk_cell BK242.out 0).trans rfl
        have hcz32_1 : wc.cell? ⟨gb242, 1, none⟩ = some (.string a0_1) := (blk_cell BK242.out 1).trans rfl
        have hcz32_2 : wc.cell? ⟨gb242, 2, none⟩ = some (.string a0_2) := (blk_cell BK242.out 2).trans rfl
        have hcz32_3 : wc.cell? ⟨gb242, 3, none⟩ = some (.string a0_3) := (blk_cell BK242.out 3).trans rfl
        have hcz32_4 : wc.cell? ⟨gb242, 4, none⟩ = some (.slice A0_4 l0_4.length c0_4) := (blk_cell BK242.out 4).trans rfl
        have hfz32_0 := blk_frozen BK242.out 0
        have hfz32_1 := blk_frozen BK242.out 1
        have hfz32_2 := blk_frozen BK242.out 2
        have hfz32_3 := blk_frozen BK242.out 3
        have hfz32_4 := blk_frozen BK242.out 4
        obtain ⟨Ao33, co33, eo33⟩ := Kd.R_slice HO_3.out
        subst eo33
        have p250 : 0 ≤ (a0_0 : Int) := of_decide_eq_true (by first | (with_reducible assumption) | assumption)
        have q250 : a0_0 < (y243.length : Int) := of_decide_eq_true (by first | (with_reducible assumption) | assumption)
        obtain ⟨ad250, e250, hx250_0⟩ := Kd.at_int (Kd.R_reads' HO_3.out).2.2 a0_0 p250 q250
        cases e250
        replace p250 := eq_true p250
        replace q250 := eq_true q250
        go_wp2
        go_ret
        exact ⟨by first | rfl | (simp [errW_none, errW_some] <;> rfl) | (simp [*, errW_none, errW_some] <;> rfl), by repeat (first | (with_reducible first | exact HB.out | apply lA | apply lN | apply lD | refine below_set ?_ GE242.out) | exact HB.out)⟩
       ·rw [if_neg c31] at H
        exact absurd H (by simp)
      ·rw [if_neg c30] at H
       exact absurd H (by simp)
end Go.Proofs.Ytdelccahgchadaa.P
end
section
namespace Go.Proofs.Ytdelccahgchadaa.P
open Go.RowKit Go.Proofs.YtdelccahgchadaaW.PrintWords Go.Proofs.YtdelccahgchadaaW.PrintLast Go.Proofs.YtdelccahgchadaaW.PrintMore
attribute [local go_sem] max2_int min2_int max_two min_two max_three min_three max_four min_four   
set_option linter.unusedVariables false
set_option linter.unusedSimpArgs false
mutual
def reredosref08_End.j0 : Nat → List (S25) → Int → Bool → Option (Int × Bool)
 | 0, _, _, _ => none
 | k + 1, x0, x1, x25 => if x25 = true then (some (0, false)) else (reredosref08_End.l0 k x0 x1 (wrap64 (x1 + 1)) 0)
def reredosref08_End.l0 : Nat → List (S25) → Int → Int → Int → Option (Int × Bool)
 | 0, _, _, _, _ => none
 | k + 1, x0, x1, x6, x7 => if 0 ≤ x1 then (if x1 < (x0.length : Int) then ((reredosref08_Kids.f k ((rd_T25 x0 x1).f0) ((rd_T25 x0 x1).f1) ((rd_T25 x0 x1).f2) ((rd_T25 x0 x1).f3) ((rd_T25 x0 x1).f4)).bind fun t254 => (if x7 < t254 then ((reredosref08_End.f k x0 x6).bind fun bt255 => (if bt255.2 = true then (reredosref08_End.l0 k x0 x1 bt255.1 (wrap64 (x7 + 1))) else (some (0, false)))) else (some (x6, true)))) else (none)) else (none)
def reredosref08_End.f : Nat → List (S25) → Int → Option (Int × Bool)
 | 0, _, _ => none
 | k + 1, l0, a1 => if a1 < 0 then (reredosref08_End.j0 k l0 a1 true) else (if a1 ≥ (l0.length : Int) then (reredosref08_End.j0 k l0 a1 true) else (if 0 ≤ a1 then (if a1 < (l0.length : Int) then ((reredosref08_Kids.f k ((rd_T25 l0 a1).f0) ((rd_T25 l0 a1).f1) ((rd_T25 l0 a1).f2) ((rd_T25 l0 a1).f3) ((rd_T25 l0 a1).f4)).bind fun t252 => (reredosref08_End.j0 k l0 a1 (decide (t252 < 0)))) else (none)) else (none)))
end
theorem reredosref08_End.mono_l : ∀ k, (∀ y0 y1, LeO (reredosref08_End.f k y0 y1) (reredosref08_End.f (k + 1) y0 y1)) ∧ (∀ y0 y1 y2, LeO (reredosref08_End.j0 k y0 y1 y2) (reredosref08_End.j0 (k + 1) y0 y1 y2)) ∧ (∀ y0 y1 y2 y3, LeO (reredosref08_End.l0 k y0 y1 y2 y3) (reredosref08_End.l0 (k + 1) y0 y1 y2 y3))
 | 0 => ⟨fun _ _ r h => by simp [reredosref08_End.f] at h, fun _ _ _ r h => by simp [reredosref08_End.j0] at h, fun _ _ _ _ r h => by simp [reredosref08_End.l0] at h⟩
 | k + 1 => by
  obtain ⟨ih0, ih1, ih2⟩ := reredosref08_End.mono_l k
  refine ⟨?_, ?_, ?_⟩
  ·intro y0 y1
   unfold reredosref08_End.f
   repeat' first
   | (with_reducible exact ih0 _ _)
   | (with_reducible exact ih1 _ _ _)
   | (with_reducible exact ih2 _ _ _ _)
   | (with_reducible exact reredosref08_Kids.mono _ _ _ _ _ _)
   | (with_reducible exact LeO.refl _)
   | (with_reducible exact LeO.none _)
   | (with_reducible refine LeO.ite ?_ ?_)
   | (with_reducible refine LeO.bind ?_ (fun _ => ?_))
   | exact ih0 _ _
   | exact ih1 _ _ _
   | exact ih2 _ _ _ _
   | exact reredosref08_Kids.mono _ _ _ _ _ _
   | exact LeO.none _
   | refine LeO.ite ?_ ?_
   | refine LeO.bind ?_ (fun _ => ?_)
  ·intro y0 y1 y2
   unfold reredosref08_End.j0
   repeat' first
   | (with_reducible exact ih0 _ _)
   | (with_reducible exact ih1 _ _ _)
   | (with_reducible exact ih2 _ _ _ _)
   | (with_reducible exact reredosref08_Kids.mono _ _ _ _ _ _)
   | (with_reducible exact LeO.refl _)
   | (with_reducible exact LeO.none _)
   | (with_reducible refine LeO.ite ?_ ?_)
   | (with_reducible refine LeO.bind ?_ (fun _ => ?_))
   | exact ih0 _ _
   | exact ih1 _ _ _
   | exact ih2 _ _ _ _
   | exact reredosref08_Kids.mono _ _ _ _ _ _
   | exact LeO.none _
   | refine LeO.ite ?_ ?_
   | refine LeO.bind ?_ (fun _ => ?_)
  ·intro y0 y1 y2 y3
   unfold reredosref08_End.l0
   repeat' first
   | (with_reducible exact ih0 _ _)
   | (with_reducible exact ih1 _ _ _)
   | (with_reducible exact ih2 _ _ _ _)
   | (with_reducible exact reredosref08_Kids.mono _ _ _ _ _ _)
   | (with_reducible exact LeO.refl _)
   | (with_reducible exact LeO.none _)
   | (with_reducible refine LeO.ite ?_ ?_)
   | (with_reducible refine LeO.bind ?_ (fun _ => ?_))
   | exact ih0 _ _
   | exact ih1 _ _ _
   | exact ih2 _ _ _ _
   | exact reredosref08_Kids.mono _ _ _ _ _ _
   | exact LeO.none _
   | refine LeO.ite ?_ ?_
   | refine LeO.bind ?_ (fun _ => ?_)
theorem reredosref08_End.mono : ∀ a0 a1 k, LeO (reredosref08_End.f k a0 a1) (reredosref08_End.f (k + 1) a0 a1) := by
 intro a0 a1 k
 obtain ⟨ih0, ih1, ih2⟩ := reredosref08_End.mono_l k
 exact ih0 a0 a1
set_option maxHeartbeats 8000000 in
set_option maxRecDepth 100000 in
theorem reredosref08_End.calls (k : Nat) : ∀ (A0 : Option Addr) (c0 : Nat) (l0 : List (S25)) (a1 : Int) (r1 : Int) (r2 : Bool) (w : World) (hr0 : Kd.C k25 w A0 l0.length l0) (hc0 : l0.length ≤ c0) (h : reredosref08_End.f k l0 a1 = some (r1, r2)),
  Calls Try.prog 20 #[.slice A0 l0.length c0, .int .i64 a1] w fun e w' => e = .returned (.tuple #[.int .i64 r1, .bool r2]) ∧ Below w.heap.size w w' := by
 induction k using Nat.strongRecOn with
 | _ k ih =>
 intro A0 c0 l0 a1 r1 r2 w hr0 hc0 h
 cases k with
 | zero => exact absurd h (by simp [reredosref08_End.f])
 | succ k =>
 simp only [reredosref08_End.f] at h
 have hu25 := Try.underlying25
 have HR0 := am hr0
 have HC0 := am hc0
 clear hr0 hc0
 have HB := am (Below.refl w.heap.size w)
 have H : (if a1 < 0 then (reredosref08_End.j0 k l0 a1 true) else (if a1 ≥ (l0.length : Int) then (reredosref08_End.j0 k l0 a1 true) else (if 0 ≤ a1 then (if a1 < (l0.length : Int) then ((reredosref08_Kids.f k ((rd_T25 l0 a1).f0) ((rd_T25 l0 a1).f1) ((rd_T25 l0 a1).f2) ((rd_T25 l0 a1).f3) ((rd_T25 l0 a1).f4)).bind fun t252 => (reredosref08_End.j0 k l0 a1 (decide (t252 < 0)))) else (none)) else (none)))) = some (r1, r2) := h
 clear h
 have HC3 := am H
 clear H
 go_enter Try.func20, Try.ntmps20
 go_upto_region 1 with (fail)
 go_cut [25] (fun v25 wc => ∃ (kq : Nat) (x25_2 : Bool), v25 = .bool x25_2 ∧ Aside0 (reredosref08_End.j0 kq l0 a1 x25_2 = some (r1, r2)) ∧ Aside0 (kq ≤ k) ∧ Aside0 (Below w.heap.size w wc))
 case first =>
  have H := HC3.out
  clear HC3
  by_cases c4 : a1 < 0
  ·rw [if_pos c4] at H
   have c4b0 : decide (a1 < 0) = true := decide_eq_true c4
   clear c4
   (first | rw [c4b0] | (simp only [i64_w, i32_w]; rw [c4b0]) | skip)
   have H' := am H
   clear H
   go_wp2
   go_meet
   case rel => exact ⟨_, (true), (by first | rfl | (simp; done) | (simp [*]; done)), H', ⟨by first | omega | exact Nat.le_refl _⟩, ⟨by repeat (first | (with_reducible first | exact HB.out | apply lA | apply lN | apply lD) | exact HB.out)⟩⟩
  ·rw [if_neg c4] at H
   have c4b0 : decide (a1 < 0) = false := decide_eq_false c4
   clear c4
   (first | rw [c4b0] | (simp only [i64_w, i32_w]; rw [c4b0]) | skip)
   by_cases c5 : a1 ≥ (l0.length : Int)
   ·rw [if_pos c5] at H
    have c5b0 : decide ((l0.length : Int) ≤ a1) = true := decide_eq_true c5
    clear c5
    have H' := am H
    clear H
    go_wp2
    go_meet
    case rel => exact ⟨_, (true), (by first | rfl | (simp; done) | (simp [*]; done)), H', ⟨by first | omega | exact Nat.le_refl _⟩, ⟨by repeat (first | (with_reducible first | exact HB.out | apply lA | apply lN | apply lD) | exact HB.out)⟩⟩
   ·rw [if_neg c5] at H
    have c5b0 : decide ((l0.length : Int) ≤ a1) = false := decide_eq_false c5
    clear c5
    by_cases c6 : 0 ≤ a1
    ·rw [if_pos c6] at H
     have c6b0 : decide (0 ≤ a1) = true := decide_eq_true c6
     clear c6
     by_cases c7 : a1 < (l0.length : Int)
     ·rw [if_pos c7] at H
      have c7b0 : decide (a1 < (l0.length : Int)) = true := decide_eq_true c7
      clear c7
      replace H := Option.bind_eq_some_iff.mp H
      obtain ⟨t252, A80, H⟩ := H
      replace H : (reredosref08_End.j0 k l0 a1 (decide (t252 < 0))) = some (r1, r2) := H
      have A8 := am A80
      clear A80
      have H' := am H
      clear H
      have p251 : 0 ≤ (a1 : Int) := of_decide_eq_true (by first | (with_reducible assumption) | assumption)
      have q251 : a1 < (l0.length : Int) := of_decide_eq_true (by first | (with_reducible assumption) | assumption)
      obtain ⟨ad251, A251_4, c251_4, e251, hx251_0, hx251_1, hx251_2, hx251_3, hx251_4, hl251_4, hi251_4⟩ := at_T25 HR0.out a1 p251 q251
      cases e251
      replace hx251_0 := (HB.out.cell (World.block_lt_of_cell? w _ hx251_0)).trans hx251_0
      replace hx251_1 := (HB.out.cell (World.block_lt_of_cell? w _ hx251_1)).trans hx251_1
      replace hx251_2 := (HB.out.cell (World.block_lt_of_cell? w _ hx251_2)).trans hx251_2
      replace hx251_3 := (HB.out.cell (World.block_lt_of_cell? w _ hx251_3)).trans hx251_3
      replace hx251_4 := (HB.out.cell (World.block_lt_of_cell? w _ hx251_4)).trans hx251_4
      have HR251_4 := am hi251_4
      have HC251_4 := am hl251_4
      clear hi251_4 hl251_4
      replace p251 := eq_true p251
      replace q251 := eq_true q251
      go_wp2_with (first | (go_at_call 22; (with_reducible refine (reredosref08_Kids.calls k ((rd_T25 l0 a1).f0) ((rd_T25 l0 a1).f1) ((rd_T25 l0 a1).f2) ((rd_T25 l0 a1).f3) _ _ ((rd_T25 l0 a1).f4) t252 _ ?side1 ?side2 A8.out).mono ?_); (case side1 => repeat (first | exact (Kd.C_below HR251_4.out HB.out) | (with_reducible refine Kd.C_alloc ?_ _) | (with_reducible refine Kd.C_drewN ?_ _) | (with_reducible refine Kd.C_drew ?_))); (case side2 => exact HC251_4.out); rintro e w9 ⟨rfl, hb⟩; have n0_ := am (below_step (by repeat (first | (with_reducible first | exact HB.out | apply lA | apply lN | apply lD) | exact HB.out)) hb); clear HB; have HB := n0_; clear n0_; (try clear hb); (try clear hb2); (try clear hk); (try clear hi)))
      go_meet
      case rel => exact ⟨_, (decide (t252 < 0)), (by first | rfl | (simp; done) | (simp [*]; done)), H', ⟨by first | omega | exact Nat.le_refl _⟩, ⟨by repeat (first | (with_reducible first | exact HB.out | apply lA | apply lN | apply lD) | exact HB.out)⟩⟩
     ·rw [if_neg c7] at H
      exact absurd H (by simp)
    ·rw [if_neg c6] at H
     exact absurd H (by simp)
 case rest =>
  clear HC3
  try clear c2
  try clear p2
  try clear q2
  try clear hx2
  try clear c4
  try clear c4b0
  try clear c5
  try clear c5b0
  try clear c6
  try clear c6b0
  try clear c7
  try clear c7b0
  try clear hx251_0
  try clear hx251_1
  try clear hx251_2
  try clear hx251_3
  try clear hx251_4
  try clear p251
  try clear q251
  obtain ⟨kq, x25_2, rfl, HA, HJ2, HB⟩ := hcut
  cases kq with
  | zero => exact absurd HA.out (by simp [reredosref08_End.j0])
  | succ kj2 =>
   have H := HA.out
   clear HA
   simp only [reredosref08_End.j0] at H
   by_cases c10 : x25_2 = true
   ·subst c10
    have H1 : (some (0, false)) = some (r1, r2) := by rw [if_pos rfl] at H; exact H
    clear H
    have H := H1
    clear H1
    simp only [Option.some.injEq, Prod.mk.injEq] at H
    obtain ⟨rfl, rfl⟩ := H
    go_wp2
    go_ret2
    exact ⟨by first | rfl | (simp [errW_none, errW_some] <;> rfl) | (simp [*, errW_none, errW_some] <;> rfl), by repeat (first | (with_reducible first | exact HB.out | apply lA | apply lN | apply lD) | exact HB.out)⟩
   ·replace c10 := Bool.eq_false_iff.mpr c10
    subst c10
    have H1 : (reredosref08_End.l0 kj2 l0 a1 (wrap64 (a1 + 1)) 0) = some (r1, r2) := by rw [if_neg (show ¬ (false = true) by decide)] at H; exact H
    clear H
    have H := H1
    clear H1
    have H' := am H
    clear H
    go_wp2
    go_loopg [6, 7] kj2 (fun kq v6 v7 w' => ∃ (x6_2 : Int) (x7_2 : Int), v6 = .int .i64 x6_2 ∧ v7 = .int .i64 x7_2 ∧ Aside0 (reredosref08_End.l0 kq l0 a1 x6_2 x7_2 = some (r1, r2)) ∧ Aside0 (kq ≤ kj2) ∧ Aside0 (Below w.heap.size w w'))
    case atStart => exact ⟨(wrap64 (a1 + 1)), (0), (by first | rfl | (simp; done) | (simp [*]; done)), (by first | rfl | (simp; done) | (simp [*]; done)), H', ⟨Nat.le_refl _⟩, ⟨by repeat (first | (with_reducible first | exact HB.out | apply lA | apply lN | apply lD) | exact HB.out)⟩⟩
    case round =>
     clear H'
     try clear c1
     try clear c2
     try clear p2
     try clear q2
     try clear hx2
     try clear c4
     try clear c4b0
     try clear c5
     try clear c5b0
     try clear c6
     try clear c6b0
     try clear p6
     try clear c7
     try clear c7b0
     try clear c10
     try clear hx251_0
     try clear hx251_1
     try clear hx251_2
     try clear hx251_3
     try clear hx251_4
     try clear p2
     try clear p251
     try clear q2
     try clear q251
     obtain ⟨x6_2, x7_2, rfl, rfl, HA, HK2, HB⟩ := hrel
     cases gk with
     | zero => exact absurd HA.out (by simp [reredosref08_End.l0])
     | succ k2 =>
      have H := HA.out
      clear HA
      simp only [reredosref08_End.l0] at H
      by_cases c11 : 0 ≤ a1
      ·rw [if_pos c11] at H
       have c11b0 : decide (0 ≤ a1) = true := decide_eq_true c11
       clear c11
       by_cases c12 : a1 < (l0.length : Int)
       ·rw [if_pos c12] at H
        have c12b0 : decide (a1 < (l0.length : Int)) = true := decide_eq_true c12
        clear c12
        replace H := Option.bind_eq_some_iff.mp H
        obtain ⟨t254, A130, H⟩ := H
        replace H : (if x7_2 < t254 then ((reredosref08_End.f k2 l0 x6_2).bind fun bt255 => (if bt255.2 = true then (reredosref08_End.l0 k2 l0 a1 bt255.1 (wrap64 (x7_2 + 1))) else (some (0, false)))) else (some (x6_2, true))) = some (r1, r2) := H
        have A13 := am A130
        clear A130
        by_cases c14 : x7_2 < t254
        ·rw [if_pos c14] at H
         have c14b0 : decide (x7_2 < t254) = true := decide_eq_true c14
         clear c14
         replace H := Option.bind_eq_some_iff.mp H
         obtain ⟨⟨t255, t256⟩, A150, H⟩ := H
         replace H : (if t256 = true then (reredosref08_End.l0 k2 l0 a1 t255 (wrap64 (x7_2 + 1))) else (some (0, false))) = some (r1, r2) := H
         have A15 := am A150
         clear A150
         by_cases c16 : t256 = true
         ·subst c16
          have H1 : (reredosref08_End.l0 k2 l0 a1 t255 (wrap64 (x7_2 + 1))) = some (r1, r2) := by rw [if_pos rfl] at H; exact H
          clear H
          have H := H1
          clear H1
          have H' := am H
          clear H
          have p253 : 0 ≤ (a1 : Int) := of_decide_eq_true (by first | (with_reducible assumption) | assumption)
          have q253 : a1 < (l0.length : Int) := of_decide_eq_true (by first | (with_reducible assumption) | assumption)
          obtain ⟨ad253, A253_4, c253_4, e253, hx253_0, hx253_1, hx253_2, hx253_3, hx253_4, hl253_4, hi253_4⟩ := at_T25 HR0.out a1 p253 q253
          cases e253
          replace hx253_0 := (HB.out.cell (World.block_lt_of_cell? w _ hx253_0)).trans hx253_0
          replace hx253_1 := (HB.out.cell (World.block_lt_of_cell? w _ hx253_1)).trans hx253_1
          replace hx253_2 := (HB.out.cell (World.block_lt_of_cell? w _ hx253_2)).trans hx253_2
          replace hx253_3 := (HB.out.cell (World.block_lt_of_cell? w _ hx253_3)).trans hx253_3
          replace hx253_4 := (HB.out.cell (World.block_lt_of_cell? w _ hx253_4)).trans hx253_4
          have HR253_4 := am hi253_4
          have HC253_4 := am hl253_4
          clear hi253_4 hl253_4
          replace p253 := eq_true p253
          replace q253 := eq_true q253
          go_wp2_with (first | ((with_reducible refine gate_callee (f := 22) rfl ?_); refine goesL_ (some 33) rfl rfl Try.func22 (by kernel_rfl) rfl #[.agg #[.int .i64 ((rd_T25 l0 a1).f0), .string ((rd_T25 l0 a1).f1), .string ((rd_T25 l0 a1).f2), .string ((rd_T25 l0 a1).f3), .slice A253_4 ((rd_T25 l0 a1).f4).length c253_4]] rfl (by (try simp only [List.map_toArray, List.map_cons, List.map_nil]); first | done | rfl | (simp only [List.length_drop, List.length_take]; rfl)) ?_; (with_reducible refine (reredosref08_Kids.calls k2 ((rd_T25 l0 a1).f0) ((rd_T25 l0 a1).f1) ((rd_T25 l0 a1).f2) ((rd_T25 l0 a1).f3) _ _ ((rd_T25 l0 a1).f4) t254 _ ?side1 ?side2 A13.out).mono ?_); (case side1 => repeat (first | exact (Kd.C_below HR253_4.out HB.out) | (with_reducible refine Kd.C_alloc ?_ _) | (with_reducible refine Kd.C_drewN ?_ _) | (with_reducible refine Kd.C_drew ?_))); (case side2 => exact HC253_4.out); rintro e w17 ⟨rfl, hb⟩; refine ⟨_, rfl, ?_⟩; have n0_ := am (below_step (by repeat (first | (with_reducible first | exact HB.out | apply lA | apply lN | apply lD) | exact HB.out)) hb); clear HB; have HB := n0_; clear n0_; (try clear hb); (try clear hb2); (try clear hk); (try clear hi)) | ((with_reducible refine gate_callee (f := 20) rfl ?_); refine goesL_ (some 40) rfl rfl Try.func20 (by kernel_rfl) rfl #[.slice (some ad253) l0.length c0, .int .i64 x6_2] rfl (by (try simp only [List.map_toArray, List.map_cons, List.map_nil]); first | done | rfl | (simp only [List.length_drop, List.length_take]; rfl)) ?_; (with_reducible refine (ih k2 (by have := HJ2.out; have := HK2.out; omega) _ _ l0 x6_2 t255 true _ ?side1 ?side2 A15.out).mono ?_); (case side1 => repeat (first | exact (Kd.C_below HR0.out HB.out) | (with_reducible refine Kd.C_alloc ?_ _) | (with_reducible refine Kd.C_drewN ?_ _) | (with_reducible refine Kd.C_drew ?_))); (case side2 => exact HC0.out); rintro e w18 ⟨rfl, hb⟩; refine ⟨_, rfl, ?_⟩; have n0_ := am (below_step (by repeat (first | (with_reducible first | exact HB.out | apply lA | apply lN | apply lD) | exact HB.out)) hb); clear HB; have HB := n0_; clear n0_; (try clear hb); (try clear hb2); (try clear hk); (try clear hi)))
          go_roundg k2
          case measure => have := HJ2.out; have := HK2.out; omega
          case rel => exact ⟨(t255), (wrap64 (x7_2 + 1)), (by first | rfl | (simp; done) | (simp [*]; done)), (by first | rfl | (simp; done) | (simp [*]; done)), H', ⟨by have := HJ2.out; have := HK2.out; omega⟩, ⟨by repeat (first | (with_reducible first | exact HB.out | apply lA | apply lN | apply lD) | exact HB.out)⟩⟩
         ·replace c16 := Bool.eq_false_iff.mpr c16
          subst c16
          have H1 : (some (0, false)) = some (r1, r2) := by rw [if_neg (show ¬ (false = true) by decide)] at H; exact H
          clear H
          have H := H1
          clear H1
          simp only [Option.some.injEq, Prod.mk.injEq] at H
          obtain ⟨rfl, rfl⟩ := H
          have p253 : 0 ≤ (a1 : Int) := of_decide_eq_true (by first | (with_reducible assumption) | assumption)
          have q253 : a1 < (l0.length : Int) := of_decide_eq_true (by first | (with_reducible assumption) | assumption)
          obtain ⟨ad253, A253_4, c253_4, e253, hx253_0, hx253_1, hx253_2, hx253_3, hx253_4, hl253_4, hi253_4⟩ := at_T25 HR0.out a1 p253 q253
          cases e253
          replace hx253_0 := (HB.out.cell (World.block_lt_of_cell? w _ hx253_0)).trans hx253_0
          replace hx253_1 := (HB.out.cell (World.block_lt_of_cell? w _ hx253_1)).trans hx253_1
          replace hx253_2 := (HB.out.cell (World.block_lt_of_cell? w _ hx253_2)).trans hx253_2
          replace hx253_3 := (HB.out.cell (World.block_lt_of_cell? w _ hx253_3)).trans hx253_3
          replace hx253_4 := (HB.out.cell (World.block_lt_of_cell? w _ hx253_4)).trans hx253_4
          have HR253_4 := am hi253_4
          have HC253_4 := am hl253_4
          clear hi253_4 hl253_4
          replace p253 := eq_true p253
          replace q253 := eq_true q253
          go_wp2_with (first | ((with_reducible refine gate_callee (f := 22) rfl ?_); refine goesL_ (some 33) rfl rfl Try.func22 (by kernel_rfl) rfl #[.agg #[.int .i64 ((rd_T25 l0 a1).f0), .string ((rd_T25 l0 a1).f1), .string ((rd_T25 l0 a1).f2), .string ((rd_T25 l0 a1).f3), .slice A253_4 ((rd_T25 l0 a1).f4).length c253_4]] rfl (by (try simp only [List.map_toArray, List.map_cons, List.map_nil]); first | done | rfl | (simp only [List.length_drop, List.length_take]; rfl)) ?_; (with_reducible refine (reredosref08_Kids.calls k2 ((rd_T25 l0 a1).f0) ((rd_T25 l0 a1).f1) ((rd_T25 l0 a1).f2) ((rd_T25 l0 a1).f3) _ _ ((rd_T25 l0 a1).f4) t254 _ ?side1 ?side2 A13.out).mono ?_); (case side1 => repeat (first | exact (Kd.C_below HR253_4.out HB.out) | (with_reducible refine Kd.C_alloc ?_ _) | (with_reducible refine Kd.C_drewN ?_ _) | (with_reducible refine Kd.C_drew ?_))); (case side2 => exact HC253_4.out); rintro e w19 ⟨rfl, hb⟩; refine ⟨_, rfl, ?_⟩; have n0_ := am (below_step (by repeat (first | (with_reducible first | exact HB.out | apply lA | apply lN | apply lD) | exact HB.out)) hb); clear HB; have HB := n0_; clear n0_; (try clear hb); (try clear hb2); (try clear hk); (try clear hi)) | ((with_reducible refine gate_callee (f := 20) rfl ?_); refine goesL_ (some 40) rfl rfl Try.func20 (by kernel_rfl) rfl #[.slice (some ad253) l0.length c0, .int .i64 x6_2] rfl (by (try simp only [List.map_toArray, List.map_cons, List.map_nil]); first | done | rfl | (simp only [List.length_drop, List.length_take]; rfl)) ?_; (with_reducible refine (ih k2 (by have := HJ2.out; have := HK2.out; omega) _ _ l0 x6_2 t255 false _ ?side1 ?side2 A15.out).mono ?_); (case side1 => repeat (first | exact (Kd.C_below HR0.out HB.out) | (with_reducible refine Kd.C_alloc ?_ _) | (with_reducible refine Kd.C_drewN ?_ _) | (with_reducible refine Kd.C_drew ?_))); (case side2 => exact HC0.out); rintro e w20 ⟨rfl, hb⟩; refine ⟨_, rfl, ?_⟩; have n0_ := am (below_step (by repeat (first | (with_reducible first | exact HB.out | apply lA | apply lN | apply lD) | exact HB.out)) hb); clear HB; have HB := n0_; clear n0_; (try clear hb); (try clear hb2); (try clear hk); (try clear hi)))
          go_ret2
          exact ⟨by first | rfl | (simp [errW_none, errW_some] <;> rfl) | (simp [*, errW_none, errW_some] <;> rfl), by repeat (first | (with_reducible first | exact HB.out | apply lA | apply lN | apply lD) | exact HB.out)⟩
        ·rw [if_neg c14] at H
         have c14b0 : decide (x7_2 < t254) = false := decide_eq_false c14
         clear c14
         simp only [Option.some.injEq, Prod.mk.injEq] at H
         obtain ⟨rfl, rfl⟩ := H
         have p253 : 0 ≤ (a1 : Int) := of_decide_eq_true (by first | (with_reducible assumption) | assumption)
         have q253 : a1 < (l0.length : Int) := of_decide_eq_true (by first | (with_reducible assumption) | assumption)
         obtain ⟨ad253, A253_4, c253_4, e253, hx253_0, hx253_1, hx253_2, hx253_3, hx253_4, hl253_4, hi253_4⟩ := at_T25 HR0.out a1 p253 q253
         cases e253
         replace hx253_0 := (HB.out.cell (World.block_lt_of_cell? w _ hx253_0)).trans hx253_0
         replace hx253_1 := (HB.out.cell (World.block_lt_of_cell? w _ hx253_1)).trans hx253_1
         replace hx253_2 := (HB.out.cell (World.block_lt_of_cell? w _ hx253_2)).trans hx253_2
         replace hx253_3 := (HB.out.cell (World.block_lt_of_cell? w _ hx253_3)).trans hx253_3
         replace hx253_4 := (HB.out.cell (World.block_lt_of_cell? w _ hx253_4)).trans hx253_4
         have HR253_4 := am hi253_4
         have HC253_4 := am hl253_4
         clear hi253_4 hl253_4
         replace p253 := eq_true p253
         replace q253 := eq_true q253
         go_wp2_with (first | ((with_reducible refine gate_callee (f := 22) rfl ?_); refine goesL_ (some 33) rfl rfl Try.func22 (by kernel_rfl) rfl #[.agg #[.int .i64 ((rd_T25 l0 a1).f0), .string ((rd_T25 l0 a1).f1), .string ((rd_T25 l0 a1).f2), .string ((rd_T25 l0 a1).f3), .slice A253_4 ((rd_T25 l0 a1).f4).length c253_4]] rfl (by (try simp only [List.map_toArray, List.map_cons, List.map_nil]); first | done | rfl | (simp only [List.length_drop, List.length_take]; rfl)) ?_; (with_reducible refine (reredosref08_Kids.calls k2 ((rd_T25 l0 a1).f0) ((rd_T25 l0 a1).f1) ((rd_T25 l0 a1).f2) ((rd_T25 l0 a1).f3) _ _ ((rd_T25 l0 a1).f4) t254 _ ?side1 ?side2 A13.out).mono ?_); (case side1 => repeat (first | exact (Kd.C_below HR253_4.out HB.out) | (with_reducible refine Kd.C_alloc ?_ _) | (with_reducible refine Kd.C_drewN ?_ _) | (with_reducible refine Kd.C_drew ?_))); (case side2 => exact HC253_4.out); rintro e w21 ⟨rfl, hb⟩; refine ⟨_, rfl, ?_⟩; have n0_ := am (below_step (by repeat (first | (with_reducible first | exact HB.out | apply lA | apply lN | apply lD) | exact HB.out)) hb); clear HB; have HB := n0_; clear n0_; (try clear hb); (try clear hb2); (try clear hk); (try clear hi)))
         go_ret2
         exact ⟨by first | rfl | (simp [errW_none, errW_some] <;> rfl) | (simp [*, errW_none, errW_some] <;> rfl), by repeat (first | (with_reducible first | exact HB.out | apply lA | apply lN | apply lD) | exact HB.out)⟩
       ·rw [if_neg c12] at H
        exact absurd H (by simp)
      ·rw [if_neg c11] at H
       exact absurd H (by simp)
end Go.Proofs.Ytdelccahgchadaa.P
end
section
namespace Go.Proofs.Ytdelccahgchadaa.P
open Go.RowKit Go.Proofs.YtdelccahgchadaaW.PrintWords Go.Proofs.YtdelccahgchadaaW.PrintLast Go.Proofs.YtdelccahgchadaaW.PrintMore
attribute [local go_sem] max2_int min2_int max_two min_two max_three min_three max_four min_four   
set_option linter.unusedVariables false
set_option linter.unusedSimpArgs false
def reredosref08_Under.l0 : Nat → List (S25) → Int → List Int → Int → Int → Option (List Int)
 | 0, _, _, _, _, _ => none
 | k + 1, x0, x1, x5, x8, x9 => if 0 ≤ x1 then (if x1 < (x0.length : Int) then ((reredosref08_Kids.f k ((rd_T25 x0 x1).f0) ((rd_T25 x0 x1).f1) ((rd_T25 x0 x1).f2) ((rd_T25 x0 x1).f3) ((rd_T25 x0 x1).f4)).bind fun t260 => (if x9 < t260 then (if x5.length < 17592186044416 then ((reredosref08_End.f k x0 x8).bind fun bt264 => (reredosref08_Under.l0 k x0 x1 (x5 ++ [x8]) bt264.1 (wrap64 (x9 + 1)))) else (none)) else (some x5))) else (none)) else (none)
def reredosref08_Under.f (k : Nat) (l0 : List (S25)) (a1 : Int) : Option (List Int) := (reredosref08_End.f k l0 a1).bind fun bt257 => (if bt257.2 = true then (reredosref08_Under.l0 k l0 a1 ([] : List Int) (wrap64 (a1 + 1)) 0) else (some ([] : List Int)))
theorem reredosref08_Under.mono_l : ∀ k, (∀ y0 y1 y2 y3 y4, LeO (reredosref08_Under.l0 k y0 y1 y2 y3 y4) (reredosref08_Under.l0 (k + 1) y0 y1 y2 y3 y4))
 | 0 => fun _ _ _ _ _ r h => by simp [reredosref08_Under.l0] at h
 | k + 1 => by
  have ih0 := reredosref08_Under.mono_l k
  ·intro y0 y1 y2 y3 y4
   unfold reredosref08_Under.l0
   repeat' first
   | (with_reducible exact ih0 _ _ _ _ _)
   | (with_reducible exact reredosref08_End.mono _ _ _)
   | (with_reducible exact reredosref08_Kids.mono _ _ _ _ _ _)
   | (with_reducible exact LeO.refl _)
   | (with_reducible exact LeO.none _)
   | (with_reducible refine LeO.ite ?_ ?_)
   | (with_reducible refine LeO.bind ?_ (fun _ => ?_))
   | exact ih0 _ _ _ _ _
   | exact reredosref08_End.mono _ _ _
   | exact reredosref08_Kids.mono _ _ _ _ _ _
   | exact LeO.none _
   | refine LeO.ite ?_ ?_
   | refine LeO.bind ?_ (fun _ => ?_)
theorem reredosref08_Under.mono : ∀ a0 a1 k, LeO (reredosref08_Under.f k a0 a1) (reredosref08_Under.f (k + 1) a0 a1) := by
 intro a0 a1 k
 have ih0 := reredosref08_Under.mono_l k
 unfold reredosref08_Under.f
 repeat' first
   | (with_reducible exact ih0 _ _ _ _ _)
   | (with_reducible exact reredosref08_End.mono _ _ _)
   | (with_reducible exact reredosref08_Kids.mono _ _ _ _ _ _)
   | (with_reducible exact LeO.refl _)
   | (with_reducible exact LeO.none _)
   | (with_reducible refine LeO.ite ?_ ?_)
   | (with_reducible refine LeO.bind ?_ (fun _ => ?_))
   | exact ih0 _ _ _ _ _
   | exact reredosref08_End.mono _ _ _
   | exact reredosref08_Kids.mono _ _ _ _ _ _
   | exact LeO.none _
   | refine LeO.ite ?_ ?_
   | refine LeO.bind ?_ (fun _ => ?_)
set_option maxHeartbeats 8000000 in
set_option maxRecDepth 100000 in
theorem reredosref08_Under.calls (k : Nat) (A0 : Option Addr) (c0 : Nat) (l0 : List (S25)) (a1 : Int) (r : List Int) (w : World) (hr0 : Kd.C k25 w A0 l0.length l0) (hc0 : l0.length ≤ c0) (h : reredosref08_Under.f k l0 a1 = some r) :
  Calls Try.prog 25 #[.slice A0 l0.length c0, .int .i64 a1] w fun e w' => ∃ v0_ : Value, e = .returned (v0_) ∧ Kd.R (Kd.int .i64) 3 w' w.heap.size (fun _ => True) v0_ r ∧ Below w.heap.size w w' := by
 have hu25 := Try.underlying25
 have HR0 := am hr0
 have HC0 := am hc0
 clear hr0 hc0
 have HB := am (Below.refl w.heap.size w)
 have H : ((reredosref08_End.f k l0 a1).bind fun bt257 => (if bt257.2 = true then (reredosref08_Under.l0 k l0 a1 ([] : List Int) (wrap64 (a1 + 1)) 0) else (some ([] : List Int)))) = some r := h
 clear h
 replace H := Option.bind_eq_some_iff.mp H
 obtain ⟨⟨t257, t258⟩, A30, H⟩ := H
 replace H : (if t258 = true then (reredosref08_Under.l0 k l0 a1 ([] : List Int) (wrap64 (a1 + 1)) 0) else (some ([] : List Int))) = some r := H
 have A3 := am A30
 clear A30
 by_cases c4 : t258 = true
 ·subst c4
  have H1 : (reredosref08_Under.l0 k l0 a1 ([] : List Int) (wrap64 (a1 + 1)) 0) = some r := by rw [if_pos rfl] at H; exact H
  clear H
  have H := H1
  clear H1
  have H' := am H
  clear H
  go_enter Try.func25, Try.ntmps25
  go_wp2_with (first | ((with_reducible refine gate_callee (f := 20) rfl ?_); refine goesL_ (some 15) rfl rfl Try.func20 (by kernel_rfl) rfl #[.slice A0 l0.length c0, .int .i64 a1] rfl (by (try simp only [List.map_toArray, List.map_cons, List.map_nil]); first | done | rfl | (simp only [List.length_drop, List.length_take]; rfl)) ?_; (with_reducible refine (reredosref08_End.calls k _ _ l0 a1 t257 true _ ?side1 ?side2 A3.out).mono ?_); (case side1 => repeat (first | exact HR0.out | (with_reducible refine Kd.C_alloc ?_ _) | (with_reducible refine Kd.C_drewN ?_ _) | (with_reducible refine Kd.C_drew ?_))); (case side2 => exact HC0.out); rintro e w5 ⟨rfl, hb⟩; refine ⟨_, rfl, ?_⟩; have n0_ := am (below_step (by repeat (first | (with_reducible first | exact HB.out | apply lA | apply lN | apply lD) | exact HB.out)) hb); clear HB; have HB := n0_; clear n0_; (try clear hb); (try clear hb2); (try clear hk); (try clear hi)))
  go_loopg [5, 8, 9] k (fun kq v5 v8 v9 w' => ∃ (x5_1 : List Int) (x8_1 : Int) (x9_1 : Int), v8 = .int .i64 x8_1 ∧ v9 = .int .i64 x9_1 ∧ Aside0 (reredosref08_Under.l0 kq l0 a1 x5_1 x8_1 x9_1 = some r) ∧ Aside0 (kq ≤ k) ∧ Aside0 (Kd.R (Kd.int .i64) 3 w' w.heap.size (fun _ => True) v5 x5_1) ∧ Aside0 (Below w.heap.size w w'))
  case atStart => exact ⟨(([] : List Int)), (wrap64 (a1 + 1)), (0), (by first | rfl | (simp; done) | (simp [*]; done)), (by first | rfl | (simp; done) | (simp [*]; done)), H', ⟨Nat.le_refl _⟩, ⟨by first | exact Kd.R_nil _ _ _ _ _ | exact Kd.N_nil _ _ _ _ _ | exact Kd.V_nil _ _ _ _ _ | exact Kd.Q_nil _ _ _ _ _ | exact Kd.S_nil _ _ _ _ _⟩, ⟨by repeat (first | (with_reducible first | exact HB.out | apply lA | apply lN | apply lD) | exact HB.out)⟩⟩
  case round =>
   clear H'
   try clear c2
   try clear p2
   try clear c4
   obtain ⟨x5_1, x8_1, x9_1, rfl, rfl, HA, HK1, HO_5, HB⟩ := hrel
   cases gk with
   | zero => exact absurd HA.out (by simp [reredosref08_Under.l0])
   | succ k1 =>
    have H := HA.out
    clear HA
    simp only [reredosref08_Under.l0] at H
    by_cases c6 : 0 ≤ a1
    ·rw [if_pos c6] at H
     have c6b0 : decide (0 ≤ a1) = true := decide_eq_true c6
     clear c6
     by_cases c7 : a1 < (l0.length : Int)
     ·rw [if_pos c7] at H
      have c7b0 : decide (a1 < (l0.length : Int)) = true := decide_eq_true c7
      clear c7
      replace H := Option.bind_eq_some_iff.mp H
      obtain ⟨t260, A80, H⟩ := H
      replace H : (if x9_1 < t260 then (if x5_1.length < 17592186044416 then ((reredosref08_End.f k1 l0 x8_1).bind fun bt264 => (reredosref08_Under.l0 k1 l0 a1 (x5_1 ++ [x8_1]) bt264.1 (wrap64 (x9_1 + 1)))) else (none)) else (some x5_1)) = some r := H
      have A8 := am A80
      clear A80
      by_cases c9 : x9_1 < t260
      ·rw [if_pos c9] at H
       have c9b0 : decide (x9_1 < t260) = true := decide_eq_true c9
       clear c9
       by_cases c10 : x5_1.length < 17592186044416
       ·rw [if_pos c10] at H
        have LMc10 := am c10
        clear c10
        obtain ⟨y261, hy261⟩ : ∃ y_ : List Int, y_ = (x5_1 ++ [x8_1]) := ⟨_, rfl⟩
        replace H : ((reredosref08_End.f k1 l0 x8_1).bind fun bt264 => (reredosref08_Under.l0 k1 l0 a1 y261 bt264.1 (wrap64 (x9_1 + 1)))) = some r := by first | (rw [hy261]; with_reducible exact H) | (have H2_ := (Option.bind_some _ _).symm.trans H; rw [hy261]; with_reducible exact H2_) | (have H2_ := (Option.bind_some _ _).symm.trans H; with_reducible exact H2_) | with_reducible exact H | (rw [hy261]; exact H) | exact H
        have Ny261 := am hy261
        clear hy261
        replace H := Option.bind_eq_some_iff.mp H
        obtain ⟨⟨t264, t265⟩, A110, H⟩ := H
        replace H : (reredosref08_Under.l0 k1 l0 a1 y261 t264 (wrap64 (x9_1 + 1))) = some r := H
        have A11 := am A110
        clear A110
        have H' := am H
        clear H
        have p259 : 0 ≤ (a1 : Int) := of_decide_eq_true (by first | (with_reducible assumption) | assumption)
        have q259 : a1 < (l0.length : Int) := of_decide_eq_true (by first | (with_reducible assumption) | assumption)
        obtain ⟨ad259, A259_4, c259_4, e259, hx259_0, hx259_1, hx259_2, hx259_3, hx259_4, hl259_4, hi259_4⟩ := at_T25 HR0.out a1 p259 q259
        cases e259
        replace hx259_0 := (HB.out.cell (World.block_lt_of_cell? w _ hx259_0)).trans hx259_0
        replace hx259_1 := (HB.out.cell (World.block_lt_of_cell? w _ hx259_1)).trans hx259_1
        replace hx259_2 := (HB.out.cell (World.block_lt_of_cell? w _ hx259_2)).trans hx259_2
        replace hx259_3 := (HB.out.cell (World.block_lt_of_cell? w _ hx259_3)).trans hx259_3
        replace hx259_4 := (HB.out.cell (World.block_lt_of_cell? w _ hx259_4)).trans hx259_4
        have HR259_4 := am hi259_4
        have HC259_4 := am hl259_4
        clear hi259_4 hl259_4
        replace p259 := eq_true p259
        replace q259 := eq_true q259
        go_wp2_with (first | ((with_reducible refine gate_callee (f := 22) rfl ?_); refine goesL_ (some 27) rfl rfl Try.func22 (by kernel_rfl) rfl #[.agg #[.int .i64 ((rd_T25 l0 a1).f0), .string ((rd_T25 l0 a1).f1), .string ((rd_T25 l0 a1).f2), .string ((rd_T25 l0 a1).f3), .slice A259_4 ((rd_T25 l0 a1).f4).length c259_4]] rfl (by (try simp only [List.map_toArray, List.map_cons, List.map_nil]); first | done | rfl | (simp only [List.length_drop, List.length_take]; rfl)) ?_; (with_reducible refine (reredosref08_Kids.calls k1 ((rd_T25 l0 a1).f0) ((rd_T25 l0 a1).f1) ((rd_T25 l0 a1).f2) ((rd_T25 l0 a1).f3) _ _ ((rd_T25 l0 a1).f4) t260 _ ?side1 ?side2 A8.out).mono ?_); (case side1 => repeat (first | exact (Kd.C_below HR259_4.out HB.out) | (with_reducible refine Kd.C_alloc ?_ _) | (with_reducible refine Kd.C_drewN ?_ _) | (with_reducible refine Kd.C_drew ?_))); (case side2 => exact HC259_4.out); rintro e w12 ⟨rfl, hb⟩; refine ⟨_, rfl, ?_⟩; have n0_ := am (Kd.R_below (by (with_reducible repeat (first | apply Kd.R_alloc | apply Kd.R_drewN | apply Kd.R_drew)); exact HO_5.out) hb); have n1_ := am (below_step (by repeat (first | (with_reducible first | exact HB.out | apply lA | apply lN | apply lD) | exact HB.out)) hb); clear HO_5; clear HB; have HO_5 := n0_; have HB := n1_; clear n0_ n1_; (try clear hb); (try clear hb2); (try clear hk); (try clear hi)) | ((with_reducible refine gate_builtin (b := .append) (xs := #[.tmp 31, .tmp 33]) rfl ?_); at_builtin; refine Kd.R_append (Kd.int .i64) (w0 := w) w.heap.size rfl (.tmp 31) (.tmp 33) 32 3 (.int .i64 0) 8 rfl Try.underlying32 info3 rfl (by decide) (by omega) u5 x5_1 x8_1 [.int .i64 x8_1] (fun _ => True) (fun _ => False) rfl rfl ?aP (fun _ hk => hk.elim) ?aF ?aO ?aB ?aS ?aL ?_; (case aP => exact rfl); (case aB => exact (by repeat (first | (with_reducible first | exact HB.out | apply lA | apply lN | apply lD) | exact HB.out))); (case aF => exact (fun _ _ => trivial)); (case aO => exact (by (with_reducible repeat (first | apply Kd.R_alloc | apply Kd.R_drewN | apply Kd.R_drew)); exact HO_5.out)); (case aS => exact (below_size (by repeat (first | (with_reducible first | exact HB.out | apply lA | apply lN | apply lD) | exact HB.out)))); (case aL => have := LMc10.out; omega); intro v262 w13 ho hb hg hat; rw [← Ny261.out] at ho; have n0_ := am (hb); have n1_ := am (ho); clear HB; clear HO_5; have HB := n0_; have HO263 := n1_; clear n0_ n1_; clear ho hb hg hat) | ((with_reducible refine gate_callee (f := 20) rfl ?_); refine goesL_ (some 38) rfl rfl Try.func20 (by kernel_rfl) rfl #[.slice (some ad259) l0.length c0, .int .i64 x8_1] rfl (by (try simp only [List.map_toArray, List.map_cons, List.map_nil]); first | done | rfl | (simp only [List.length_drop, List.length_take]; rfl)) ?_; (with_reducible refine (reredosref08_End.calls k1 _ _ l0 x8_1 t264 t265 _ ?side1 ?side2 A11.out).mono ?_); (case side1 => repeat (first | exact (Kd.C_below HR0.out HB.out) | (with_reducible refine Kd.C_alloc ?_ _) | (with_reducible refine Kd.C_drewN ?_ _) | (with_reducible refine Kd.C_drew ?_))); (case side2 => exact HC0.out); rintro e w14 ⟨rfl, hb⟩; refine ⟨_, rfl, ?_⟩; have n0_ := am (Kd.R_below (by (with_reducible repeat (first | apply Kd.R_alloc | apply Kd.R_drewN | apply Kd.R_drew)); exact HO263.out) hb); have n1_ := am (below_step (by repeat (first | (with_reducible first | exact HB.out | apply lA | apply lN | apply lD) | exact HB.out)) hb); clear HO263; clear HB; have HO263 := n0_; have HB := n1_; clear n0_ n1_; (try clear hb); (try clear hb2); (try clear hk); (try clear hi)))
        go_roundg k1
        case measure => have := HK1.out; omega
        case rel => exact ⟨(y261), (t264), (wrap64 (x9_1 + 1)), (by first | rfl | (simp; done) | (simp [*]; done)), (by first | rfl | (simp; done) | (simp [*]; done)), H', ⟨by have := HK1.out; omega⟩, ⟨by (with_reducible repeat (first | apply Kd.R_alloc | apply Kd.R_drewN | apply Kd.R_drew)); exact HO263.out⟩, ⟨by repeat (first | (with_reducible first | exact HB.out | apply lA | apply lN | apply lD) | exact HB.out)⟩⟩
       ·rw [if_neg c10] at H
        exact absurd H (by simp)
      ·rw [if_neg c9] at H
       have c9b0 : decide (x9_1 < t260) = false := decide_eq_false c9
       clear c9
       obtain rfl := Option.some.inj H
       have p259 : 0 ≤ (a1 : Int) := of_decide_eq_true (by first | (with_reducible assumption) | assumption)
       have q259 : a1 < (l0.length : Int) := of_decide_eq_true (by first | (with_reducible assumption) | assumption)
       obtain ⟨ad259, A259_4, c259_4, e259, hx259_0, hx259_1, hx259_2, hx259_3, hx259_4, hl259_4, hi259_4⟩ := at_T25 HR0.out a1 p259 q259
       cases e259
       replace hx259_0 := (HB.out.cell (World.block_lt_of_cell? w _ hx259_0)).trans hx259_0
       replace hx259_1 := (HB.out.cell (World.block_lt_of_cell? w _ hx259_1)).trans hx259_1
       replace hx259_2 := (HB.out.cell (World.block_lt_of_cell? w _ hx259_2)).trans hx259_2
       replace hx259_3 := (HB.out.cell (World.block_lt_of_cell? w _ hx259_3)).trans hx259_3
       replace hx259_4 := (HB.out.cell (World.block_lt_of_cell? w _ hx259_4)).trans hx259_4
       have HR259_4 := am hi259_4
       have HC259_4 := am hl259_4
       clear hi259_4 hl259_4
       replace p259 := eq_true p259
       replace q259 := eq_true q259
       go_wp2_with (first | ((with_reducible refine gate_callee (f := 22) rfl ?_); refine goesL_ (some 27) rfl rfl Try.func22 (by kernel_rfl) rfl #[.agg #[.int .i64 ((rd_T25 l0 a1).f0), .string ((rd_T25 l0 a1).f1), .string ((rd_T25 l0 a1).f2), .string ((rd_T25 l0 a1).f3), .slice A259_4 ((rd_T25 l0 a1).f4).length c259_4]] rfl (by (try simp only [List.map_toArray, List.map_cons, List.map_nil]); first | done | rfl | (simp only [List.length_drop, List.length_take]; rfl)) ?_; (with_reducible refine (reredosref08_Kids.calls k1 ((rd_T25 l0 a1).f0) ((rd_T25 l0 a1).f1) ((rd_T25 l0 a1).f2) ((rd_T25 l0 a1).f3) _ _ ((rd_T25 l0 a1).f4) t260 _ ?side1 ?side2 A8.out).mono ?_); (case side1 => repeat (first | exact (Kd.C_below HR259_4.out HB.out) | (with_reducible refine Kd.C_alloc ?_ _) | (with_reducible refine Kd.C_drewN ?_ _) | (with_reducible refine Kd.C_drew ?_))); (case side2 => exact HC259_4.out); rintro e w15 ⟨rfl, hb⟩; refine ⟨_, rfl, ?_⟩; have n0_ := am (Kd.R_below (by (with_reducible repeat (first | apply Kd.R_alloc | apply Kd.R_drewN | apply Kd.R_drew)); exact HO_5.out) hb); have n1_ := am (below_step (by repeat (first | (with_reducible first | exact HB.out | apply lA | apply lN | apply lD) | exact HB.out)) hb); clear HO_5; clear HB; have HO_5 := n0_; have HB := n1_; clear n0_ n1_; (try clear hb); (try clear hb2); (try clear hk); (try clear hi)))
       go_ret
       exact ⟨_, by first | rfl | (simp [errW_none, errW_some] <;> rfl) | (simp [*, errW_none, errW_some] <;> rfl), by (with_reducible repeat (first | apply Kd.R_alloc | apply Kd.R_drewN | apply Kd.R_drew)); exact HO_5.out, by repeat (first | (with_reducible first | exact HB.out | apply lA | apply lN | apply lD) | exact HB.out)⟩
     ·rw [if_neg c7] at H
      exact absurd H (by simp)
    ·rw [if_neg c6] at H
     exact absurd H (by simp)
 ·replace c4 := Bool.eq_false_iff.mpr c4
  subst c4
  have H1 : (some ([] : List Int)) = some r := by rw [if_neg (show ¬ (false = true) by decide)] at H; exact H
  clear H
  have H := H1
  clear H1
  obtain rfl := Option.some.inj H
  go_enter Try.func25, Try.ntmps25
  go_wp2_with (first | ((with_reducible refine gate_callee (f := 20) rfl ?_); refine goesL_ (some 15) rfl rfl Try.func20 (by kernel_rfl) rfl #[.slice A0 l0.length c0, .int .i64 a1] rfl (by (try simp only [List.map_toArray, List.map_cons, List.map_nil]); first | done | rfl | (simp only [List.length_drop, List.length_take]; rfl)) ?_; (with_reducible refine (reredosref08_End.calls k _ _ l0 a1 t257 false _ ?side1 ?side2 A3.out).mono ?_); (case side1 => repeat (first | exact HR0.out | (with_reducible refine Kd.C_alloc ?_ _) | (with_reducible refine Kd.C_drewN ?_ _) | (with_reducible refine Kd.C_drew ?_))); (case side2 => exact HC0.out); rintro e w16 ⟨rfl, hb⟩; refine ⟨_, rfl, ?_⟩; have n0_ := am (below_step (by repeat (first | (with_reducible first | exact HB.out | apply lA | apply lN | apply lD) | exact HB.out)) hb); clear HB; have HB := n0_; clear n0_; (try clear hb); (try clear hb2); (try clear hk); (try clear hi)))
  go_ret
  exact ⟨_, by first | rfl | (simp [errW_none, errW_some] <;> rfl) | (simp [*, errW_none, errW_some] <;> rfl), by first | exact Kd.R_nil _ _ _ _ _ | exact Kd.N_nil _ _ _ _ _ | exact Kd.V_nil _ _ _ _ _ | exact Kd.Q_nil _ _ _ _ _ | exact Kd.S_nil _ _ _ _ _, by repeat (first | (with_reducible first | exact HB.out | apply lA | apply lN | apply lD) | exact HB.out)⟩
mutual
def reredosref08_deep.l0 : Nat → List (S25) → Int → List Int → Int → Option (Int)
 | 0, _, _, _, _ => none
 | k + 1, x0, x5, x6, x7 => if x7 < (x6.length : Int) then (if 0 ≤ x7 then ((reredosref08_deep.f k x0 (rd x6 x7)).bind fun t270 => (reredosref08_deep.l0 k x0 (mx x5 t270) x6 (wrap64 (x7 + 1)))) else (none)) else (some (wrap64 (1 + x5)))
def reredosref08_deep.f : Nat → List (S25) → Int → Option (Int)
 | 0, _, _ => none
 | k + 1, l0, a1 => (reredosref08_Under.f k l0 a1).bind fun t266 => (reredosref08_deep.l0 k l0 0 t266 0)
end
theorem reredosref08_deep.mono_l : ∀ k, (∀ y0 y1, LeO (reredosref08_deep.f k y0 y1) (reredosref08_deep.f (k + 1) y0 y1)) ∧ (∀ y0 y1 y2 y3, LeO (reredosref08_deep.l0 k y0 y1 y2 y3) (reredosref08_deep.l0 (k + 1) y0 y1 y2 y3))
 | 0 => ⟨fun _ _ r h => by simp [reredosref08_deep.f] at h, fun _ _ _ _ r h => by simp [reredosref08_deep.l0] at h⟩
 | k + 1 => by
  obtain ⟨ih0, ih1⟩ := reredosref08_deep.mono_l k
  refine ⟨?_, ?_⟩
  ·intro y0 y1
   unfold reredosref08_deep.f
   repeat' first
   | (with_reducible exact ih0 _ _)
   | (with_reducible exact ih1 _ _ _ _)
   | (with_reducible exact reredosref08_Under.mono _ _ _)
   | (with_reducible exact LeO.refl _)
   | (with_reducible exact LeO.none _)
   | (with_reducible refine LeO.ite ?_ ?_)
   | (with_reducible refine LeO.bind ?_ (fun _ => ?_))
   | exact ih0 _ _
   | exact ih1 _ _ _ _
   | exact reredosref08_Under.mono _ _ _
   | exact LeO.none _
   | refine LeO.ite ?_ ?_
   | refine LeO.bind ?_ (fun _ => ?_)
  ·intro y0 y1 y2 y3
   unfold reredosref08_deep.l0
   repeat' first
   | (with_reducible exact ih0 _ _)
   | (with_reducible exact ih1 _ _ _ _)
   | (with_reducible exact reredosref08_Under.mono _ _ _)
   | (with_reducible exact LeO.refl _)
   | (with_reducible exact LeO.none _)
   | (with_reducible refine LeO.ite ?_ ?_)
   | (with_reducible refine LeO.bind ?_ (fun _ => ?_))
   | exact ih0 _ _
   | exact ih1 _ _ _ _
   | exact reredosref08_Under.mono _ _ _
   | exact LeO.none _
   | refine LeO.ite ?_ ?_
   | refine LeO.bind ?_ (fun _ => ?_)
theorem reredosref08_deep.mono : ∀ a0 a1 k, LeO (reredosref08_deep.f k a0 a1) (reredosref08_deep.f (k + 1) a0 a1) := by
 intro a0 a1 k
 obtain ⟨ih0, ih1⟩ := reredosref08_deep.mono_l k
 exact ih0 a0 a1
set_option maxHeartbeats 8000000 in
set_option maxRecDepth 100000 in
theorem reredosref08_deep.calls (k : Nat) : ∀ (A0 : Option Addr) (c0 : Nat) (l0 : List (S25)) (a1 : Int) (r : Int) (w : World) (hr0 : Kd.C k25 w A0 l0.length l0) (hc0 : l0.length ≤ c0) (h : reredosref08_deep.f k l0 a1 = some r),
  Calls Try.prog 41 #[.slice A0 l0.length c0, .int .i64 a1] w fun e w' => e = .returned (.int .i64 r) ∧ Below w.heap.size w w' := by
 induction k using Nat.strongRecOn with
 | _ k ih =>
 intro A0 c0 l0 a1 r w hr0 hc0 h
 cases k with
 | zero => exact absurd h (by simp [reredosref08_deep.f])
 | succ k =>
 simp only [reredosref08_deep.f] at h
 have HR0 := am hr0
 have HC0 := am hc0
 clear hr0 hc0
 have HB := am (Below.refl w.heap.size w)
 have H : ((reredosref08_Under.f k l0 a1).bind fun t266 => (reredosref08_deep.l0 k l0 0 t266 0)) = some r := h
 clear h
 replace H := Option.bind_eq_some_iff.mp H
 obtain ⟨t266, A30, H⟩ := H
 replace H : (reredosref08_deep.l0 k l0 0 t266 0) = some r := H
 have A3 := am A30
 clear A30
 have H' := am H
 clear H
 go_enter Try.func41, Try.ntmps41
 go_wp2_with (first | ((with_reducible refine gate_callee (f := 25) rfl ?_); refine goesL_ (some 10) rfl rfl Try.func25 (by kernel_rfl) rfl #[.slice A0 l0.length c0, .int .i64 a1] rfl (by (try simp only [List.map_toArray, List.map_cons, List.map_nil]); first | done | rfl | (simp only [List.length_drop, List.length_take]; rfl)) ?_; (with_reducible refine (reredosref08_Under.calls k _ _ l0 a1 t266 _ ?side1 ?side2 A3.out).mono ?_); (case side1 => repeat (first | exact HR0.out | (with_reducible refine Kd.C_alloc ?_ _) | (with_reducible refine Kd.C_drewN ?_ _) | (with_reducible refine Kd.C_drew ?_))); (case side2 => exact HC0.out); rintro e w4 ⟨v267, rfl, ho0, hb⟩; refine ⟨_, rfl, ?_⟩; have n0_ := am (Kd.R_lower ho0 (below_size (by repeat (first | (with_reducible first | exact HB.out | apply lA | apply lN | apply lD) | exact HB.out)))); have n1_ := am (below_step (by repeat (first | (with_reducible first | exact HB.out | apply lA | apply lN | apply lD) | exact HB.out)) hb); clear HB; have HO268 := n0_; have HB := n1_; clear n0_ n1_; (try clear hb); (try clear hb2); (try clear hk); (try clear hi); (try clear ho0)))
 go_loopg [5, 7] k (fun kq v5 v7 w' => ∃ (x5_1 : Int) (x7_1 : Int), v5 = .int .i64 x5_1 ∧ v7 = .int .i64 x7_1 ∧ Aside0 (reredosref08_deep.l0 kq l0 x5_1 t266 x7_1 = some r) ∧ Aside0 (kq ≤ k) ∧ Aside0 (Kd.R (Kd.int .i64) 3 w' w.heap.size (fun _ => True) v267 t266) ∧ Aside0 (Below w.heap.size w w'))
 case atStart => exact ⟨(0), (0), (by first | rfl | (simp; done) | (simp [*]; done)), (by first | rfl | (simp; done) | (simp [*]; done)), H', ⟨Nat.le_refl _⟩, ⟨by (with_reducible repeat (first | apply Kd.R_alloc | apply Kd.R_drewN | apply Kd.R_drew)); exact HO268.out⟩, ⟨by repeat (first | (with_reducible first | exact HB.out | apply lA | apply lN | apply lD) | exact HB.out)⟩⟩
 case round =>
  clear H'
  try clear c2
  try clear p2
  try clear c4
  obtain ⟨x5_1, x7_1, rfl, rfl, HA, HK1, HO_6, HB⟩ := hrel
  cases gk with
  | zero => exact absurd HA.out (by simp [reredosref08_deep.l0])
  | succ k1 =>
   have H := HA.out
   clear HA
   simp only [reredosref08_deep.l0] at H
   by_cases c5 : x7_1 < (t266.length : Int)
   ·rw [if_pos c5] at H
    have c5b0 : decide (x7_1 < (t266.length : Int)) = true := decide_eq_true c5
    clear c5
    by_cases c6 : 0 ≤ x7_1
    ·rw [if_pos c6] at H
     have c6b0 : decide (0 ≤ x7_1) = true := decide_eq_true c6
     clear c6
     replace H := Option.bind_eq_some_iff.mp H
     obtain ⟨t270, A70, H⟩ := H
     replace H : (reredosref08_deep.l0 k1 l0 (mx x5_1 t270) t266 (wrap64 (x7_1 + 1))) = some r := H
     have A7 := am A70
     clear A70
     obtain ⟨ji8, hji8⟩ : ∃ j_ : Int, (mx x5_1 t270) = j_ := ⟨_, rfl⟩
     replace H : (reredosref08_deep.l0 k1 l0 ji8 t266 (wrap64 (x7_1 + 1))) = some r := by first | (rw [hji8] at H; exact H) | (simp only [hji8] at H ⊢; exact H)
     (try rw [hji8] at A7)
     have hji8_ : (if x5_1 < t270 then t270 else x5_1) = ji8 := hji8
     have H' := am H
     clear H
     obtain ⟨Ao9, co9, eo9⟩ := Kd.R_slice HO_6.out
     subst eo9
     have p269 : 0 ≤ (x7_1 : Int) := of_decide_eq_true (by first | (with_reducible assumption) | assumption)
     have q269 : x7_1 < (t266.length : Int) := of_decide_eq_true (by first | (with_reducible assumption) | assumption)
     obtain ⟨ad269, e269, hx269_0⟩ := Kd.at_int (Kd.R_reads' HO_6.out).2.2 x7_1 p269 q269
     cases e269
     replace p269 := eq_true p269
     replace q269 := eq_true q269
     go_wp2_with (first | ((with_reducible refine gate_callee (f := 41) rfl ?_); refine goesL_ (some 23) rfl rfl Try.func41 (by kernel_rfl) rfl #[.slice A0 l0.length c0, .int .i64 (rd t266 x7_1)] rfl (by (try simp only [List.map_toArray, List.map_cons, List.map_nil]); first | done | rfl | (simp only [List.length_drop, List.length_take]; rfl)) ?_; (with_reducible refine (ih k1 (by have := HK1.out; omega) _ _ l0 (rd t266 x7_1) t270 _ ?side1 ?side2 A7.out).mono ?_); (case side1 => repeat (first | exact (Kd.C_below HR0.out HB.out) | (with_reducible refine Kd.C_alloc ?_ _) | (with_reducible refine Kd.C_drewN ?_ _) | (with_reducible refine Kd.C_drew ?_))); (case side2 => exact HC0.out); rintro e w10 ⟨rfl, hb⟩; refine ⟨_, rfl, ?_⟩; have n0_ := am (Kd.R_below (by (with_reducible repeat (first | apply Kd.R_alloc | apply Kd.R_drewN | apply Kd.R_drew)); exact HO_6.out) hb); have n1_ := am (below_step (by repeat (first | (with_reducible first | exact HB.out | apply lA | apply lN | apply lD) | exact HB.out)) hb); clear HO_6; clear HB; have HO_6 := n0_; have HB := n1_; clear n0_ n1_; (try clear hb); (try clear hb2); (try clear hk); (try clear hi)))
     go_roundg k1
     case measure => have := HK1.out; omega
     case rel => exact ⟨(ji8), (wrap64 (x7_1 + 1)), (by first | rfl | (simp; done) | (simp only [← hji8] <;> (first | rfl | simp)) | (simp [*]; done)), (by first | rfl | (simp; done) | (simp [*]; done)), H', ⟨by have := HK1.out; omega⟩, ⟨by (with_reducible repeat (first | apply Kd.R_alloc | apply Kd.R_drewN | apply Kd.R_drew)); exact HO_6.out⟩, ⟨by repeat (first | (with_reducible first | exact HB.out | apply lA | apply lN | apply lD) | exact HB.out)⟩⟩
    ·rw [if_neg c6] at H
     exact absurd H (by simp)
   ·rw [if_neg c5] at H
    have c5b0 : decide (x7_1 < (t266.length : Int)) = false := decide_eq_false c5
    clear c5
    obtain rfl := Option.some.inj H
    obtain ⟨Ao11, co11, eo11⟩ := Kd.R_slice HO_6.out
    subst eo11
    go_wp2
    go_ret
    exact ⟨by first | rfl | (simp [errW_none, errW_some] <;> rfl) | (simp [*, errW_none, errW_some] <;> rfl), by repeat (first | (with_reducible first | exact HB.out | apply lA | apply lN | apply lD) | exact HB.out)⟩
def reredosref08_Depth.f (k : Nat) (l0 : List (S25)) : Option (Int) := (reredosref08_End.f k l0 0).bind fun bt271 => (if bt271.2 = true then ((reredosref08_deep.f k l0 0).bind fun t273 => (some t273)) else (some 0))
theorem reredosref08_Depth.mono : ∀ a0 k, LeO (reredosref08_Depth.f k a0) (reredosref08_Depth.f (k + 1) a0) := by
 intro a0 k
 unfold reredosref08_Depth.f
 repeat' first
   | (with_reducible exact reredosref08_End.mono _ _ _)
   | (with_reducible exact reredosref08_deep.mono _ _ _)
   | (with_reducible exact LeO.refl _)
   | (with_reducible exact LeO.none _)
   | (with_reducible refine LeO.ite ?_ ?_)
   | (with_reducible refine LeO.bind ?_ (fun _ => ?_))
   | exact reredosref08_End.mono _ _ _
   | exact reredosref08_deep.mono _ _ _
   | exact LeO.none _
   | refine LeO.ite ?_ ?_
   | refine LeO.bind ?_ (fun _ => ?_)
set_option maxHeartbeats 8000000 in
set_option maxRecDepth 100000 in
theorem reredosref08_Depth.calls (k : Nat) (A0 : Option Addr) (c0 : Nat) (l0 : List (S25)) (r : Int) (w : World) (hr0 : Kd.C k25 w A0 l0.length l0) (hc0 : l0.length ≤ c0) (h : reredosref08_Depth.f k l0 = some r) :
  Calls Try.prog 27 #[.slice A0 l0.length c0] w fun e w' => e = .returned (.int .i64 r) ∧ Below w.heap.size w w' := by
 have HR0 := am hr0
 have HC0 := am hc0
 clear hr0 hc0
 have HB := am (Below.refl w.heap.size w)
 have H : ((reredosref08_End.f k l0 0).bind fun bt271 => (if bt271.2 = true then ((reredosref08_deep.f k l0 0).bind fun t273 => (some t273)) else (some 0))) = some r := h
 clear h
 replace H := Option.bind_eq_some_iff.mp H
 obtain ⟨⟨t271, t272⟩, A20, H⟩ := H
 replace H : (if t272 = true then ((reredosref08_deep.f k l0 0).bind fun t273 => (some t273)) else (some 0)) = some r := H
 have A2 := am A20
 clear A20
 by_cases c3 : t272 = true
 ·subst c3
  have H1 : ((reredosref08_deep.f k l0 0).bind fun t273 => (some t273)) = some r := by rw [if_pos rfl] at H; exact H
  clear H
  have H := H1
  clear H1
  replace H := Option.bind_eq_some_iff.mp H
  obtain ⟨t273, A40, H⟩ := H
  replace H : (some t273) = some r := H
  have A4 := am A40
  clear A40
  obtain rfl := Option.some.inj H
  go_enter Try.func27, Try.ntmps27
  go_wp2_with (first | ((with_reducible refine gate_callee (f := 20) rfl ?_); refine goesL_ (some 7) rfl rfl Try.func20 (by kernel_rfl) rfl #[.slice A0 l0.length c0, .int .i64 0] rfl (by (try simp only [List.map_toArray, List.map_cons, List.map_nil]); first | done | rfl | (simp only [List.length_drop, List.length_take]; rfl)) ?_; (with_reducible refine (reredosref08_End.calls k _ _ l0 0 t271 true _ ?side1 ?side2 A2.out).mono ?_); (case side1 => repeat (first | exact HR0.out | (with_reducible refine Kd.C_alloc ?_ _) | (with_reducible refine Kd.C_drewN ?_ _) | (with_reducible refine Kd.C_drew ?_))); (case side2 => exact HC0.out); rintro e w5 ⟨rfl, hb⟩; refine ⟨_, rfl, ?_⟩; have n0_ := am (below_step (by repeat (first | (with_reducible first | exact HB.out | apply lA | apply lN | apply lD) | exact HB.out)) hb); clear HB; have HB := n0_; clear n0_; (try clear hb); (try clear hb2); (try clear hk); (try clear hi)) | ((with_reducible refine gate_callee (f := 41) rfl ?_); refine goesL_ (some 13) rfl rfl Try.func41 (by kernel_rfl) rfl #[.slice A0 l0.length c0, .int .i64 0] rfl (by (try simp only [List.map_toArray, List.map_cons, List.map_nil]); first | done | rfl | (simp only [List.length_drop, List.length_take]; rfl)) ?_; (with_reducible refine (reredosref08_deep.calls k _ _ l0 0 t273 _ ?side1 ?side2 A4.out).mono ?_); (case side1 => repeat (first | exact (Kd.C_below HR0.out HB.out) | (with_reducible refine Kd.C_alloc ?_ _) | (with_reducible refine Kd.C_drewN ?_ _) | (with_reducible refine Kd.C_drew ?_))); (case side2 => exact HC0.out); rintro e w6 ⟨rfl, hb⟩; refine ⟨_, rfl, ?_⟩; have n0_ := am (below_step (by repeat (first | (with_reducible first | exact HB.out | apply lA | apply lN | apply lD) | exact HB.out)) hb); clear HB; have HB := n0_; clear n0_; (try clear hb); (try clear hb2); (try clear hk); (try clear hi)))
  go_ret
  exact ⟨by first | rfl | (simp [errW_none, errW_some] <;> rfl) | (simp [*, errW_none, errW_some] <;> rfl), by repeat (first | (with_reducible first | exact HB.out | apply lA | apply lN | apply lD) | exact HB.out)⟩
 ·replace c3 := Bool.eq_false_iff.mpr c3
  subst c3
  have H1 : (some 0) = some r := by rw [if_neg (show ¬ (false = true) by decide)] at H; exact H
  clear H
  have H := H1
  clear H1
  obtain rfl := Option.some.inj H
  go_enter Try.func27, Try.ntmps27
  go_wp2_with (first | ((with_reducible refine gate_callee (f := 20) rfl ?_); refine goesL_ (some 7) rfl rfl Try.func20 (by kernel_rfl) rfl #[.slice A0 l0.length c0, .int .i64 0] rfl (by (try simp only [List.map_toArray, List.map_cons, List.map_nil]); first | done | rfl | (simp only [List.length_drop, List.length_take]; rfl)) ?_; (with_reducible refine (reredosref08_End.calls k _ _ l0 0 t271 false _ ?side1 ?side2 A2.out).mono ?_); (case side1 => repeat (first | exact HR0.out | (with_reducible refine Kd.C_alloc ?_ _) | (with_reducible refine Kd.C_drewN ?_ _) | (with_reducible refine Kd.C_drew ?_))); (case side2 => exact HC0.out); rintro e w7 ⟨rfl, hb⟩; refine ⟨_, rfl, ?_⟩; have n0_ := am (below_step (by repeat (first | (with_reducible first | exact HB.out | apply lA | apply lN | apply lD) | exact HB.out)) hb); clear HB; have HB := n0_; clear n0_; (try clear hb); (try clear hb2); (try clear hk); (try clear hi)))
  go_ret
  exact ⟨by first | rfl | (simp [errW_none, errW_some] <;> rfl) | (simp [*, errW_none, errW_some] <;> rfl), by repeat (first | (with_reducible first | exact HB.out | apply lA | apply lN | apply lD) | exact HB.out)⟩
end Go.Proofs.Ytdelccahgchadaa.P
end
section
namespace Go.Proofs.Ytdelccahgchadaa.P
open Go.RowKit Go.Proofs.YtdelccahgchadaaW.PrintWords Go.Proofs.YtdelccahgchadaaW.PrintLast Go.Proofs.YtdelccahgchadaaW.PrintMore
attribute [local go_sem] max2_int min2_int max_two min_two max_three min_three max_four min_four   
set_option linter.unusedVariables false
set_option linter.unusedSimpArgs false
mutual
def reredosref01_May.j0 : Nat → ByteArray → Int → Bool → Option (Bool)
 | 0, _, _, _ => none
 | k + 1, x0, x3, x13 => if x13 = true then (reredosref01_May.j1 k x0 1) else (reredosref01_May.j1 k x0 x3)
def reredosref01_May.j1 : Nat → ByteArray → Int → Option (Bool)
 | 0, _, _ => none
 | k + 1, x0, x3 => if (wrap64 ((x0.size : Int) - x3)) < 1 then (reredosref01_May.j2 k x0 x3 true) else (if (wrap64 ((x0.size : Int) - x3)) > 100 then (reredosref01_May.j2 k x0 x3 true) else (if 0 ≤ x3 then (if x3 < (x0.size : Int) then (reredosref01_May.j2 k x0 x3 ((bt x0 x3) == 48)) else (none)) else (none)))
def reredosref01_May.j2 : Nat → ByteArray → Int → Bool → Option (Bool)
 | 0, _, _, _ => none
 | k + 1, x0, x3, x31 => if x31 = true then (some false) else (reredosref01_May.l0 k x0 x3)
def reredosref01_May.l0 : Nat → ByteArray → Int → Option (Bool)
 | 0, _, _ => none
 | k + 1, x0, x4 => if x4 < (x0.size : Int) then (if 0 ≤ x4 then (if (bt x0 x4) < 48 then (some false) else (if (bt x0 x4) > 57 then (some false) else (reredosref01_May.l0 k x0 (wrap64 (x4 + 1))))) else (none)) else (some true)
end
def reredosref01_May.f (k : Nat) (a0 : ByteArray) : Option (Bool) := if a0.toList = ([48] : List UInt8) then (some true) else (if a0.toList = ([] : List UInt8) then (reredosref01_May.j0 k a0 0 false) else (if 0 < (a0.size : Int) then (reredosref01_May.j0 k a0 0 ((bt a0 0) == 45)) else (none)))
theorem reredosref01_May.mono_l : ∀ k, (∀ y0 y1 y2, LeO (reredosref01_May.j0 k y0 y1 y2) (reredosref01_May.j0 (k + 1) y0 y1 y2)) ∧ (∀ y0 y1, LeO (reredosref01_May.j1 k y0 y1) (reredosref01_May.j1 (k + 1) y0 y1)) ∧ (∀ y0 y1 y2, LeO (reredosref01_May.j2 k y0 y1 y2) (reredosref01_May.j2 (k + 1) y0 y1 y2)) ∧ (∀ y0 y1, LeO (reredosref01_May.l0 k y0 y1) (reredosref01_May.l0 (k + 1) y0 y1))
 | 0 => ⟨fun _ _ _ r h => by simp [reredosref01_May.j0] at h, fun _ _ r h => by simp [reredosref01_May.j1] at h, fun _ _ _ r h => by simp [reredosref01_May.j2] at h, fun _ _ r h => by simp [reredosref01_May.l0] at h⟩
 | k + 1 => by
  obtain ⟨ih0, ih1, ih2, ih3⟩ := reredosref01_May.mono_l k
  refine ⟨?_, ?_, ?_, ?_⟩
  ·intro y0 y1 y2
   unfold reredosref01_May.j0
   repeat' first
   | (with_reducible exact ih0 _ _ _)
   | (with_reducible exact ih1 _ _)
   | (with_reducible exact ih2 _ _ _)
   | (with_reducible exact ih3 _ _)
   | (with_reducible exact LeO.refl _)
   | (with_reducible exact LeO.none _)
   | (with_reducible refine LeO.ite ?_ ?_)
   | (with_reducible refine LeO.bind ?_ (fun _ => ?_))
   | exact ih0 _ _ _
   | exact ih1 _ _
   | exact ih2 _ _ _
   | exact ih3 _ _
   | exact LeO.none _
   | refine LeO.ite ?_ ?_
   | refine LeO.bind ?_ (fun _ => ?_)
  ·intro y0 y1
   unfold reredosref01_May.j1
   repeat' first
   | (with_reducible exact ih0 _ _ _)
   | (with_reducible exact ih1 _ _)
   | (with_reducible exact ih2 _ _ _)
   | (with_reducible exact ih3 _ _)
   | (with_reducible exact LeO.refl _)
   | (with_reducible exact LeO.none _)
   | (with_reducible refine LeO.ite ?_ ?_)
   | (with_reducible refine LeO.bind ?_ (fun _ => ?_))
   | exact ih0 _ _ _
   | exact ih1 _ _
   | exact ih2 _ _ _
   | exact ih3 _ _
   | exact LeO.none _
   | refine LeO.ite ?_ ?_
   | refine LeO.bind ?_ (fun _ => ?_)
  ·intro y0 y1 y2
   unfold reredosref01_May.j2
   repeat' first
   | (with_reducible exact ih0 _ _ _)
   | (with_reducible exact ih1 _ _)
   | (with_reducible exact ih2 _ _ _)
   | (with_reducible exact ih3 _ _)
   | (with_reducible exact LeO.refl _)
   | (with_reducible exact LeO.none _)
   | (with_reducible refine LeO.ite ?_ ?_)
   | (with_reducible refine LeO.bind ?_ (fun _ => ?_))
   | exact ih0 _ _ _
   | exact ih1 _ _
   | exact ih2 _ _ _
   | exact ih3 _ _
   | exact LeO.none _
   | refine LeO.ite ?_ ?_
   | refine LeO.bind ?_ (fun _ => ?_)
  ·intro y0 y1
   unfold reredosref01_May.l0
   repeat' first
   | (with_reducible exact ih0 _ _ _)
   | (with_reducible exact ih1 _ _)
   | (with_reducible exact ih2 _ _ _)
   | (with_reducible exact ih3 _ _)
   | (with_reducible exact LeO.refl _)
   | (with_reducible exact LeO.none _)
   | (with_reducible refine LeO.ite ?_ ?_)
   | (with_reducible refine LeO.bind ?_ (fun _ => ?_))
   | exact ih0 _ _ _
   | exact ih1 _ _
   | exact ih2 _ _ _
   | exact ih3 _ _
   | exact LeO.none _
   | refine LeO.ite ?_ ?_
   | refine LeO.bind ?_ (fun _ => ?_)
theorem reredosref01_May.mono : ∀ a0 k, LeO (reredosref01_May.f k a0) (reredosref01_May.f (k + 1) a0) := by
 intro a0 k
 obtain ⟨ih0, ih1, ih2, ih3⟩ := reredosref01_May.mono_l k
 unfold reredosref01_May.f
 repeat' first
   | (with_reducible exact ih0 _ _ _)
   | (with_reducible exact ih1 _ _)
   | (with_reducible exact ih2 _ _ _)
   | (with_reducible exact ih3 _ _)
   | (with_reducible exact LeO.refl _)
   | (with_reducible exact LeO.none _)
   | (with_reducible refine LeO.ite ?_ ?_)
   | (with_reducible refine LeO.bind ?_ (fun _ => ?_))
   | exact ih0 _ _ _
   | exact ih1 _ _
   | exact ih2 _ _ _
   | exact ih3 _ _
   | exact LeO.none _
   | refine LeO.ite ?_ ?_
   | refine LeO.bind ?_ (fun _ => ?_)
set_option maxHeartbeats 8000000 in
set_option maxRecDepth 100000 in
theorem reredosref01_May.calls (k : Nat) (a0 : ByteArray) (r : Bool) (w : World) (h : reredosref01_May.f k a0 = some r) :
  Calls Try.prog 61 #[.string a0] w fun e w' => e = .returned (.bool r) ∧ Drawn0 w w' := by
 have H : (if a0.toList = ([48] : List UInt8) then (some true) else (if a0.toList = ([] : List UInt8) then (reredosref01_May.j0 k a0 0 false) else (if 0 < (a0.size : Int) then (reredosref01_May.j0 k a0 0 ((bt a0 0) == 45)) else (none)))) = some r := h
 clear h
 by_cases c2 : a0.toList = ([48] : List UInt8)
 ·rw [if_pos c2] at H
  have c2b0 : (a0.toList == ([48] : List UInt8)) = true := beq_iff_eq.mpr c2
  have c2b1 : (a0.toList != ([48] : List UInt8)) = false := bne_eq_false_iff_eq.mpr c2
  clear c2
  obtain rfl := Option.some.inj H
  go_enter Try.func61, Try.ntmps61
  go_wp2
  go_ret
  exact ⟨by first | rfl | (simp; done) | (simp [*]; done), by repeat (first | exact Drawn0.refl _ | apply Drawn0.step)⟩
 ·rw [if_neg c2] at H
  have c2b0 : (a0.toList == ([48] : List UInt8)) = false := beq_eq_false_iff_ne.mpr c2
  have c2b1 : (a0.toList != ([48] : List UInt8)) = true := bne_iff_ne.mpr c2
  have HC3 := am H
  clear H
  go_enter Try.func61, Try.ntmps61
  go_upto_region 4 with (fail)
  go_cut [13] (fun v13 wc => ∃ (kq : Nat) (x13_2 : Bool), v13 = .bool x13_2 ∧ Aside0 (reredosref01_May.j0 kq a0 0 x13_2 = some r) ∧ Aside0 (kq ≤ k) ∧ Drawn0 w wc)
  case first =>
   have H := HC3.out
   clear HC3
   by_cases c4 : a0.toList = ([] : List UInt8)
   ·rw [if_pos c4] at H
    have c4b0 : (a0.toList == ([] : List UInt8)) = true := beq_iff_eq.mpr c4
    have c4b1 : (a0.toList != ([] : List UInt8)) = false := bne_eq_false_iff_eq.mpr c4
    clear c4
    (first | rw [c4b0] | (simp only [i64_w, i32_w]; rw [c4b0]) | skip)
    have H' := am H
    clear H
    go_wp2
    go_meet
    case rel => exact ⟨_, (false), (by first | rfl | (simp; done) | (simp [*]; done)), H', ⟨by first | omega | exact Nat.le_refl _⟩, by repeat (first | exact Drawn0.refl _ | apply Drawn0.step)⟩
   ·rw [if_neg c4] at H
    have c4b0 : (a0.toList == ([] : List UInt8)) = false := beq_eq_false_iff_ne.mpr c4
    have c4b1 : (a0.toList != ([] : List UInt8)) = true := bne_iff_ne.mpr c4
    (first | rw [c4b0] | (simp only [i64_w, i32_w]; rw [c4b0]) | skip)
    by_cases c5 : 0 < (a0.size : Int)
    ·rw [if_pos c5] at H
     have c5b0 : decide (0 < (a0.size : Int)) = true := decide_eq_true c5
     have c5b1 : decide (0 < a0.size) = true := decide_eq_true (by omega)
     clear c5
     have H' := am H
     clear H
     have p6 : 0 ≤ (0 : Int) := (by omega)
     have q6 : 0 < a0.size := (by have : (0 : Int) < (a0.size : Int) := of_decide_eq_true (by first | (with_reducible assumption) | assumption); omega)
     have hx6 : ∀ h : 0 < a0.size, ((a0[0]'h).toNat : Int) = bt a0 0 := bt_at a0 0
     clear p6
     have qi6 : (0 < (a0.size : Int)) = True := eq_true (of_decide_eq_true (by first | (with_reducible assumption) | assumption))
     replace q6 := eq_true q6
     go_wp2
     go_meet
     case rel => exact ⟨_, (((bt a0 0) == 45)), (by first | rfl | (simp; done) | (simp [*]; done)), H', ⟨by first | omega | exact Nat.le_refl _⟩, by repeat (first | exact Drawn0.refl _ | apply Drawn0.step)⟩
    ·rw [if_neg c5] at H
     exact absurd H (by simp)
  case rest =>
   clear HC3
   try clear c2
   try clear c2b0
   try clear c2b1
   try clear p2
   try clear c4
   try clear c4b0
   try clear c4b1
   try clear c5
   try clear c5b0
   try clear c5b1
   try clear c6
   try clear p6
   try clear q6
   try clear hx6
   try clear qi6
   try clear p6
   try clear q6
   obtain ⟨kq, x13_2, rfl, HA, HJ2, ⟨mc2, rfl⟩⟩ := hcut
   cases kq with
   | zero => exact absurd HA.out (by simp [reredosref01_May.j0])
   | succ kj2 =>
    have H := HA.out
    clear HA
    simp only [reredosref01_May.j0] at H
    have HC7 := am H
    clear H
    go_upto_if 13 with (fail)
    go_cut [3] (fun v3 wc => ∃ (kq : Nat) (x3_6 : Int), v3 = .int .i64 x3_6 ∧ Aside0 (reredosref01_May.j1 kq a0 x3_6 = some r) ∧ Aside0 (kq ≤ kj2) ∧ Drawn0 w wc)
    case first =>
     have H := HC7.out
     clear HC7
     by_cases c8 : x13_2 = true
     ·subst c8
      have H1 : (reredosref01_May.j1 kj2 a0 1) = some r := by rw [if_pos rfl] at H; exact H
      clear H
      have H := H1
      clear H1
      have H' := am H
      clear H
      go_wp2
      go_meet
      case rel => exact ⟨_, (1), (by first | rfl | (simp; done) | (simp [*]; done)), H', ⟨by have := HJ2.out; first | omega | exact Nat.le_refl _⟩, by repeat (first | exact Drawn0.refl _ | apply Drawn0.step)⟩
     ·replace c8 := Bool.eq_false_iff.mpr c8
      subst c8
      have H1 : (reredosref01_May.j1 kj2 a0 0) = some r := by rw [if_neg (show ¬ (false = true) by decide)] at H; exact H
      clear H
      have H := H1
      clear H1
      have H' := am H
      clear H
      go_wp2
      go_meet
      case rel => exact ⟨_, (0), (by first | rfl | (simp; done) | (simp [*]; done)), H', ⟨by have := HJ2.out; first | omega | exact Nat.le_refl _⟩, by repeat (first | exact Drawn0.refl _ | apply Drawn0.step)⟩
    case rest =>
     clear HC7
     try clear c2
     try clear c2b0
     try clear c2b1
     try clear p2
     try clear c4
     try clear c4b0
     try clear c4b1
     try clear c5
     try clear c5b0
     try clear c5b1
     try clear c6
     try clear p6
     try clear q6
     try clear hx6
     try clear qi6
     try clear c8
     try clear p2
     try clear p6
     try clear q6
     obtain ⟨kq, x3_6, rfl, HA, HJ6, ⟨mc6, rfl⟩⟩ := hcut
     cases kq with
     | zero => exact absurd HA.out (by simp [reredosref01_May.j1])
     | succ kj6 =>
      have H := HA.out
      clear HA
      simp only [reredosref01_May.j1] at H
      have HC9 := am H
      clear H
      go_upto_region 6 with (fail)
      go_cut [31] (fun v31 wc => ∃ (kq : Nat) (x31_8 : Bool), v31 = .bool x31_8 ∧ Aside0 (reredosref01_May.j2 kq a0 x3_6 x31_8 = some r) ∧ Aside0 (kq ≤ kj6) ∧ Drawn0 w wc)
      case first =>
       have H := HC9.out
       clear HC9
       by_cases c10 : (wrap64 ((a0.size : Int) - x3_6)) < 1
       ·rw [if_pos c10] at H
        have c10b0 : decide ((wrap64 ((a0.size : Int) - x3_6)) < 1) = true := decide_eq_true c10
        clear c10
        (first | rw [c10b0] | (simp only [i64_w, i32_w]; rw [c10b0]) | skip)
        have H' := am H
        clear H
        go_wp2
        go_meet
        case rel => exact ⟨_, (true), (by first | rfl | (simp; done) | (simp [*]; done)), H', ⟨by have := HJ2.out; have := HJ6.out; first | omega | exact Nat.le_refl _⟩, by repeat (first | exact Drawn0.refl _ | apply Drawn0.step)⟩
       ·rw [if_neg c10] at H
        have c10b0 : decide ((wrap64 ((a0.size : Int) - x3_6)) < 1) = false := decide_eq_false c10
        clear c10
        (first | rw [c10b0] | (simp only [i64_w, i32_w]; rw [c10b0]) | skip)
        by_cases c11 : (wrap64 ((a0.size : Int) - x3_6)) > 100
        ·rw [if_pos c11] at H
         have c11b0 : decide (100 < (wrap64 ((a0.size : Int) - x3_6))) = true := decide_eq_true c11
         clear c11
         have H' := am H
         clear H
         go_wp2
         go_meet
         case rel => exact ⟨_, (true), (by first | rfl | (simp; done) | (simp [*]; done)), H', ⟨by have := HJ2.out; have := HJ6.out; first | omega | exact Nat.le_refl _⟩, by repeat (first | exact Drawn0.refl _ | apply Drawn0.step)⟩
        ·rw [if_neg c11] at H
         have c11b0 : decide (100 < (wrap64 ((a0.size : Int) - x3_6))) = false := decide_eq_false c11
         clear c11
         by_cases c12 : 0 ≤ x3_6
         ·rw [if_pos c12] at H
          have c12b0 : decide (0 ≤ x3_6) = true := decide_eq_true c12
          clear c12
          by_cases c13 : x3_6 < (a0.size : Int)
          ·rw [if_pos c13] at H
           have c13b0 : decide (x3_6 < (a0.size : Int)) = true := decide_eq_true c13
           clear c13
           have H' := am H
           clear H
           have p14 : 0 ≤ (x3_6 : Int) := of_decide_eq_true (by first | (with_reducible assumption) | assumption)
           have q14 : x3_6 < (a0.size : Int) := of_decide_eq_true (by first | (with_reducible assumption) | assumption)
           have hx14 := bt_at a0 x3_6
           replace p14 := eq_true p14
           replace q14 := eq_true q14
           go_wp2
           go_meet
           case rel => exact ⟨_, (((bt a0 x3_6) == 48)), (by first | rfl | (simp; done) | (simp [*]; done)), H', ⟨by have := HJ2.out; have := HJ6.out; first | omega | exact Nat.le_refl _⟩, by repeat (first | exact Drawn0.refl _ | apply Drawn0.step)⟩
          ·rw [if_neg c13] at H
           exact absurd H (by simp)
         ·rw [if_neg c12] at H
          exact absurd H (by simp)
      case rest =>
       clear HC9
       try clear c1
       try clear p1
       try clear q1
       try clear hx1
       try clear c2
       try clear c2b0
       try clear c2b1
       try clear p2
       try clear c4
       try clear c4b0
       try clear c4b1
       try clear c5
       try clear c5b0
       try clear c5b1
       try clear c6
       try clear p6
       try clear q6
       try clear hx6
       try clear qi6
       try clear c8
       try clear c10
       try clear c10b0
       try clear c11
       try clear c11b0
       try clear c12
       try clear c12b0
       try clear c13
       try clear c13b0
       try clear p14
       try clear q14
       try clear hx14
       try clear p14
       try clear p2
       try clear p6
       try clear q14
       try clear q6
       obtain ⟨kq, x31_8, rfl, HA, HJ8, ⟨mc8, rfl⟩⟩ := hcut
       cases kq with
       | zero => exact absurd HA.out (by simp [reredosref01_May.j2])
       | succ kj8 =>
        have H := HA.out
        clear HA
        simp only [reredosref01_May.j2] at H
        by_cases c15 : x31_8 = true
        ·subst c15
         have H1 : (some false) = some r := by rw [if_pos rfl] at H; exact H
         clear H
         have H := H1
         clear H1
         obtain rfl := Option.some.inj H
         go_wp2
         go_ret
         exact ⟨by first | rfl | (simp; done) | (simp [*]; done), by repeat (first | exact Drawn0.refl _ | apply Drawn0.step)⟩
        ·replace c15 := Bool.eq_false_iff.mpr c15
         subst c15
         have H1 : (reredosref01_May.l0 kj8 a0 x3_6) = some r := by rw [if_neg (show ¬ (false = true) by decide)] at H; exact H
         clear H
         have H := H1
         clear H1
         have H' := am H
         clear H
         go_wp2
         go_loopg [4] kj8 (fun kq v4 w' => ∃ (x4_4 : Int), v4 = .int .i64 x4_4 ∧ Aside0 (reredosref01_May.l0 kq a0 x4_4 = some r) ∧ Aside0 (kq ≤ kj8) ∧ Drawn0 w w')
         case atStart => exact ⟨(x3_6), (by first | rfl | (simp; done) | (simp [*]; done)), H', ⟨Nat.le_refl _⟩, by repeat (first | exact Drawn0.refl _ | apply Drawn0.step)⟩
         case round =>
          clear H'
          try clear c1
          try clear p1
          try clear q1
          try clear hx1
          try clear c2
          try clear c2b0
          try clear c2b1
          try clear p2
          try clear c4
          try clear c4b0
          try clear c4b1
          try clear c5
          try clear c5b0
          try clear c5b1
          try clear c6
          try clear p6
          try clear q6
          try clear hx6
          try clear qi6
          try clear c8
          try clear c10
          try clear c10b0
          try clear c11
          try clear c11b0
          try clear c12
          try clear c12b0
          try clear c13
          try clear c13b0
          try clear p14
          try clear q14
          try clear hx14
          try clear c15
          try clear p1
          try clear p14
          try clear p2
          try clear p6
          try clear q1
          try clear q14
          try clear q6
          obtain ⟨x4_4, rfl, HA, HK4, ⟨m4, rfl⟩⟩ := hrel
          cases gk with
          | zero => exact absurd HA.out (by simp [reredosref01_May.l0])
          | succ k4 =>
           have H := HA.out
           clear HA
           simp only [reredosref01_May.l0] at H
           by_cases c16 : x4_4 < (a0.size : Int)
           ·rw [if_pos c16] at H
            have c16b0 : decide (x4_4 < (a0.size : Int)) = true := decide_eq_true c16
            clear c16
            by_cases c17 : 0 ≤ x4_4
            ·rw [if_pos c17] at H
             have c17b0 : decide (0 ≤ x4_4) = true := decide_eq_true c17
             clear c17
             by_cases c19 : (bt a0 x4_4) < 48
             ·rw [if_pos c19] at H
              have c19b0 : decide ((bt a0 x4_4) < 48) = true := decide_eq_true c19
              clear c19
              obtain rfl := Option.some.inj H
              have p18 : 0 ≤ (x4_4 : Int) := of_decide_eq_true (by first | (with_reducible assumption) | assumption)
              have q18 : x4_4 < (a0.size : Int) := of_decide_eq_true (by first | (with_reducible assumption) | assumption)
              have hx18 := bt_at a0 x4_4
              replace p18 := eq_true p18
              replace q18 := eq_true q18
              go_wp2
              go_ret
              exact ⟨by first | rfl | (simp; done) | (simp [*]; done), by repeat (first | exact Drawn0.refl _ | apply Drawn0.step)⟩
             ·rw [if_neg c19] at H
              have c19b0 : decide ((bt a0 x4_4) < 48) = false := decide_eq_false c19
              clear c19
              by_cases c21 : (bt a0 x4_4) > 57
              ·rw [if_pos c21] at H
               have c21b0 : decide (57 < (bt a0 x4_4)) = true := decide_eq_true c21
               clear c21
               obtain rfl := Option.some.inj H
               have p18 : 0 ≤ (x4_4 : Int) := of_decide_eq_true (by first | (with_reducible assumption) | assumption)
               have q18 : x4_4 < (a0.size : Int) := of_decide_eq_true (by first | (with_reducible assumption) | assumption)
               have hx18 := bt_at a0 x4_4
               replace p18 := eq_true p18
               replace q18 := eq_true q18
               have p20 : 0 ≤ (x4_4 : Int) := of_decide_eq_true (by first | (with_reducible assumption) | assumption)
               have q20 : x4_4 < (a0.size : Int) := of_decide_eq_true (by first | (with_reducible assumption) | assumption)
               have hx20 := bt_at a0 x4_4
               replace p20 := eq_true p20
               replace q20 := eq_true q20
               go_wp2
               go_ret
               exact ⟨by first | rfl | (simp; done) | (simp [*]; done), by repeat (first | exact Drawn0.refl _ | apply Drawn0.step)⟩
              ·rw [if_neg c21] at H
               have c21b0 : decide (57 < (bt a0 x4_4)) = false := decide_eq_false c21
               clear c21
               have H' := am H
               clear H
               have p18 : 0 ≤ (x4_4 : Int) := of_decide_eq_true (by first | (with_reducible assumption) | assumption)
               have q18 : x4_4 < (a0.size : Int) := of_decide_eq_true (by first | (with_reducible assumption) | assumption)
               have hx18 := bt_at a0 x4_4
               replace p18 := eq_true p18
               replace q18 := eq_true q18
               have p20 : 0 ≤ (x4_4 : Int) := of_decide_eq_true (by first | (with_reducible assumption) | assumption)
               have q20 : x4_4 < (a0.size : Int) := of_decide_eq_true (by first | (with_reducible assumption) | assumption)
               have hx20 := bt_at a0 x4_4
               replace p20 := eq_true p20
               replace q20 := eq_true q20
               go_wp2
               go_roundg k4
               case measure => have := HJ2.out; have := HJ6.out; have := HJ8.out; have := HK4.out; omega
               case rel => exact ⟨(wrap64 (x4_4 + 1)), (by first | rfl | (simp; done) | (simp [*]; done)), H', ⟨by have := HJ2.out; have := HJ6.out; have := HJ8.out; have := HK4.out; omega⟩, by repeat (first | exact Drawn0.refl _ | apply Drawn0.step)⟩
            ·rw [if_neg c17] at H
             exact absurd H (by simp)
           ·rw [if_neg c16] at H
            have c16b0 : decide (x4_4 < (a0.size : Int)) = false := decide_eq_false c16
            clear c16
            obtain rfl := Option.some.inj H
            go_wp2
            go_ret
            exact ⟨by first | rfl | (simp; done) | (simp [*]; done), by repeat (first | exact Drawn0.refl _ | apply Drawn0.step)⟩
end Go.Proofs.Ytdelccahgchadaa.P
end
