/- What the law ParseTells rests on, part 3. -/
import Derived.Test.YtdelccahgchadaaKParseTells1
import Derived.Lib.IndexBytes
set_option linter.unusedVariables false
set_option linter.unusedSimpArgs false
section
namespace Go.Proofs.Ytdelccahgchadaa.P
open Go.RowKit Go.Proofs.YtdelccahgchadaaW.PrintWords Go.Proofs.YtdelccahgchadaaW.PrintLast Go.Proofs.YtdelccahgchadaaW.PrintMore
attribute [local go_sem] max2_int min2_int max_two min_two max_three min_three max_four min_four   
set_option linter.unusedVariables false
set_option linter.unusedSimpArgs false
def tree_Node.f (k : Nat) (a0_0 : Int) (a0_1 : ByteArray) (a0_2 : ByteArray) (a0_3 : ByteArray) (l0_4 : List ByteArray) (l1 : List (List (S25))) : Option ((List (S25))) := (some (([(⟨a0_0, a0_1, a0_2, a0_3, l0_4⟩ : S25)] : List (S25)) : List (S25))).bind fun y116 => ((api_Node_48.f k l1).bind fun t119 => (if y116.length + t119.length < 1759218604441 then (some (y116 ++ t119)) else (none)))
set_option maxHeartbeats 8000000 in
set_option maxRecDepth 100000 in
theorem tree_Node.calls (k : Nat) (a0_0 : Int) (a0_1 : ByteArray) (a0_2 : ByteArray) (a0_3 : ByteArray) (P0_4_ : Nat → Prop) (A0_4 : Option Addr) (c0_4 : Nat) (l0_4 : List ByteArray) (P1_ : Nat → Prop) (A1 : Option Addr) (c1 : Nat) (l1 : List (List (S25))) (r : List (S25)) (w : World) (hs0_4 : Kd.V Kd.string 9 w w.heap.size (fun k_ => P0_4_ k_) (.slice A0_4 l0_4.length c0_4) l0_4) (hs1 : Kd.V (Kd.slice 25 k25) 22 w w.heap.size (fun k_ => P1_ k_) (.slice A1 l1.length c1) l1) (h : tree_Node.f k a0_0 a0_1 a0_2 a0_3 l0_4 l1 = some r) :
  Calls Try.prog 32 #[.agg #[.int .i64 a0_0, .string a0_1, .string a0_2, .string a0_3, .slice A0_4 l0_4.length c0_4], .slice A1 l1.length c1] w fun e w' => ∃ v0_ : Value, e = .returned (v0_) ∧ Kd.N k25 25 w' w.heap.size (fun k_ => ((P0_4_ k_ ∨ P1_ k_) ∨ w.heap.size ≤ k_)) v0_ r ∧ Below w.heap.size w w' := by
 have hu25 := Try.underlying25
 have HO0_4 := am (show Kd.V Kd.string 9 w w.heap.size (fun k_ => ((P0_4_ k_ ∨ P1_ k_) ∨ w.heap.size ≤ k_)) (.slice A0_4 l0_4.length c0_4) l0_4 from Kd.V_mono hs0_4 (fun k_ hk => .inl (.inl hk)))
 have HO1 := am (show Kd.V (Kd.slice 25 k25) 22 w w.heap.size (fun k_ => ((P0_4_ k_ ∨ P1_ k_) ∨ w.heap.size ≤ k_)) (.slice A1 l1.length c1) l1 from Kd.V_mono hs1 (fun k_ hk => .inl (.inr hk)))
 have HB := am (Below.refl w.heap.size w)
 have H : ((some (([(⟨a0_0, a0_1, a0_2, a0_3, l0_4⟩ : S25)] : List (S25)) : List (S25))).bind fun y116 => ((api_Node_48.f k l1).bind fun t119 => (if y116.length + t119.length < 1759218604441 then (some (y116 ++ t119)) else (none)))) = some r := h
 clear h
 obtain ⟨y116, hy116⟩ : ∃ y_ : List (S25), y_ = (([(⟨a0_0, a0_1, a0_2, a0_3, l0_4⟩ : S25)] : List (S25))) := ⟨_, rfl⟩
 replace H : ((api_Node_48.f k l1).bind fun t119 => (if y116.length + t119.length < 1759218604441 then (some (y116 ++ t119)) else (none))) = some r := by first | (rw [hy116]; with_reducible exact H) | (have H2_ := (Option.bind_some _ _).symm.trans H; rw [hy116]; with_reducible exact H2_) | (have H2_ := (Option.bind_some _ _).symm.trans H; with_reducible exact H2_) | with_reducible exact H | (rw [hy116]; exact H) | exact H
 have Ny116 := am hy116
 clear hy116
 replace H := Option.bind_eq_some_iff.mp H
 obtain ⟨t119, A30, H⟩ := H
 try dsimp only at H
 have A3 := am A30
 clear A30
 by_cases c4 : y116.length + t119.length < 1759218604441
 ·rw [if_pos c4] at H
  have LMc4 := am c4
  clear c4
  obtain ⟨y122, hy122⟩ : ∃ y_ : List (S25), y_ = (y116 ++ t119) := ⟨_, rfl⟩
  replace H : (some y122) = some r := by first | (rw [hy122]; with_reducible exact H) | (have H2_ := (Option.bind_some _ _).symm.trans H; rw [hy122]; with_reducible exact H2_) | (have H2_ := (Option.bind_some _ _).symm.trans H; with_reducible exact H2_) | with_reducible exact H | (rw [hy122]; exact H) | exact H
  have Ny122 := am hy122
  clear hy122
  obtain rfl := Option.some.inj H
  go_enter Try.func32, Try.ntmps32
  try go_wp2_with ((with_reducible refine gD 2 rfl ?_); refine bx 2 #[.int .i64 a0_0, .string a0_1, .string a0_2, .string a0_3, .slice A0_4 l0_4.length c0_4] 25 ?_; intro gb115 hg w5 hbox hb; replace HO0_4 := am (Kd.V_below (Kd.V_elderB (vB HO0_4) gb115 (Nat.le_of_eq hg.symm)) hb); replace HO1 := am (Kd.V_below (Kd.V_elderB (vB HO1) gb115 (Nat.le_of_eq hg.symm)) hb); have BK115 := am hbox; have GW115 := am (geL hg (kL HB)); replace HB := am (below_step (kL HB) hb); have GE115 := GW115; clear hb hbox hg)
  replace HO0_4 := am (Kd.V_drew HO0_4.out)
  replace HO1 := am (Kd.V_drew HO1.out)
  replace BK115 := am (bD BK115.out)
  replace HB := am (lD HB.out)
  refine start_ (n := 6) (S := fun w' => w'.cell? ⟨gb115, 0, none⟩ = some (.int .i64 a0_0) ∧ w'.cell? ⟨gb115, 1, none⟩ = some (.string a0_1) ∧ w'.cell? ⟨gb115, 2, none⟩ = some (.string a0_2) ∧ w'.cell? ⟨gb115, 3, none⟩ = some (.string a0_3) ∧ w'.cell? ⟨gb115, 4, none⟩ = some (.slice A0_4 l0_4.length c0_4)) (ds := []) #[false, false, false, false, false, false] (by kernel_rfl) rfl rfl ⟨(blk_cell BK115.out 0).trans rfl, (blk_cell BK115.out 1).trans rfl, (blk_cell BK115.out 2).trans rfl, (blk_cell BK115.out 3).trans rfl, (blk_cell BK115.out 4).trans rfl⟩ (fun hHeld => ?_)
  generalize w5.drew = w6 at HO0_4 HO1 BK115 HB hHeld ⊢
  refine pure_ (i := 2) (N := some 7) (v := ?_) (a' := ?_) #[false, false, true, false, false, false] rfl rfl (by kernel_rfl) (fun _ _ _ h => h) (Or.inl ⟨by rfl, ?_⟩) ?_ ?_
  rotate_left
  ·intro w'
   go_simp
   with_reducible rfl
  rotate_left
  ·simp only [Act.put, zT, z0, zS, i64_w, i32_w]
   rfl
  refine take_ (i := 0) (N := some 5) (v := ?_) (a' := ?_) #[true, false, true, false, false, false] rfl rfl (by kernel_rfl) (fun _ _ _ h => h) (Or.inl ⟨by rfl, ?_⟩) hHeld ?_ ?_
  rotate_left
  ·rintro w' ⟨s0, s1, s2, s3, s4⟩
   go_simp
   with_reducible rfl
  rotate_left
  ·simp only [Act.put, zT, z0, zS, i64_w, i32_w]
   rfl
  refine join_ (σ := Value × Value) 2 #[true, true, true, true, false, false] (fun s_ => [(6, s_.1), (8, s_.2)]) (fun s_ w' => (w'.cell? ⟨gb115, 0, none⟩ = some (.int .i64 a0_0) ∧ w'.cell? ⟨gb115, 1, none⟩ = some (.string a0_1) ∧ w'.cell? ⟨gb115, 2, none⟩ = some (.string a0_2) ∧ w'.cell? ⟨gb115, 3, none⟩ = some (.string a0_3) ∧ w'.cell? ⟨gb115, 4, none⟩ = some (.slice A0_4 l0_4.length c0_4)) ∧ (Kd.V Kd.string 9 w' w.heap.size (fun k_ => ((P0_4_ k_ ∨ P1_ k_) ∨ w.heap.size ≤ k_) ∧ some k_ ≠ (s_.1 : Value).ownBlock ∧ some k_ ≠ (s_.2 : Value).ownBlock ∧ k_ ≠ gb115) (.slice A0_4 l0_4.length c0_4) l0_4) ∧ (Kd.V (Kd.slice 25 k25) 22 w' w.heap.size (fun k_ => ((P0_4_ k_ ∨ P1_ k_) ∨ w.heap.size ≤ k_) ∧ some k_ ≠ (s_.1 : Value).ownBlock ∧ some k_ ≠ (s_.2 : Value).ownBlock ∧ k_ ≠ gb115) (.slice A1 l1.length c1) l1) ∧ (Kd.N k25 25 w' w.heap.size (fun k_ => ((P0_4_ k_ ∨ P1_ k_) ∨ w.heap.size ≤ k_) ∧ some k_ ≠ (s_.2 : Value).ownBlock ∧ k_ ≠ gb115) s_.1 y116) ∧ (Kd.N k25 25 w' w.heap.size (fun k_ => ((P0_4_ k_ ∨ P1_ k_) ∨ w.heap.size ≤ k_) ∧ some k_ ≠ (s_.1 : Value).ownBlock ∧ k_ ≠ gb115) s_.2 t119) ∧ (w'.heap[gb115]? = some (.cells #[.int .i64 a0_0, .string a0_1, .string a0_2, .string a0_3, .slice A0_4 l0_4.length c0_4] 25 (0, 0))) ∧ (Below w.heap.size w w')) ?_ ?_
  rotate_left
  ·intro hCont
   refine two_ (i := 1) (j := 3) (Ni := some 6) (Nj := some 8) #[true, true, true, false, false, false] #[true, false, true, true, false, false] rfl rfl rfl rfl (by kernel_rfl) (by decide) (by decide) (fun K hK => ?_) (fun K hK => ?_)
   ·skip
    refine Kd.N_lit_step k25 _ 25 ?hg (N' := 6) ?hd (xs := ([(⟨a0_0, a0_1, a0_2, a0_3, l0_4⟩ : S25)] : List (S25))) (inner := [.int .i64 a0_0, .string a0_1, .string a0_2, .string a0_3, .slice A0_4 l0_4.length c0_4]) (ok := (fun k_ => ((P0_4_ k_ ∨ P1_ k_) ∨ w.heap.size ≤ k_) ∧ k_ ≠ gb115)) (okp := (fun k_ => ((P0_4_ k_ ∨ P1_ k_) ∨ w.heap.size ≤ k_) ∧ k_ ≠ gb115)) ?hr ?hp (fun _ hk => hk) ((show ∀ k_, w6.heap.size ≤ k_ → (fun k_ => ((P0_4_ k_ ∨ P1_ k_) ∨ w.heap.size ≤ k_) ∧ k_ ≠ gb115) k_ from fun k_ hk => ⟨(.inr (Nat.le_trans (below_size (kL HB)) hk)), Kd.freshB (g := gb115) (o := .cells #[.int .i64 a0_0, .string a0_1, .string a0_2, .string a0_3, .slice A0_4 l0_4.length c0_4] 25 (0, 0)) (kB BK115) k_ hk⟩) _ (Nat.le_refl _)) (Below.refl _ _) (Nat.le_refl _) (by simp) ?_; (case hd => rfl); (case hg => rfl); (case hr => first | (go_simp; done) | (go_simp; rfl)); (case hp => exact (Reps.c5 (show Kd.FK k25 _ _ (⟨a0_0, a0_1, a0_2, a0_3, l0_4⟩ : S25) [.int .i64 a0_0, .string a0_1, .string a0_2, .string a0_3, .slice A0_4 l0_4.length c0_4] from (k25_mkF _ _ (⟨a0_0, a0_1, a0_2, a0_3, l0_4⟩ : S25) (Kd.V_reads' (Kd.V_mono (ok' := (fun k_ => ((P0_4_ k_ ∨ P1_ k_) ∨ w.heap.size ≤ k_) ∧ k_ ≠ gb115)) (HO0_4.out) (fun k_ hk => ⟨hk.1, hk.2⟩))).2.1 (Kd.V_F (Kd.V_mono (ok' := (fun k_ => ((P0_4_ k_ ∨ P1_ k_) ∨ w.heap.size ≤ k_) ∧ k_ ≠ gb115)) (HO0_4.out) (fun k_ hk => ⟨hk.1, hk.2⟩))))) (Reps.none _ _)))
    intro v117 w7 ho8 hb hg_ hnew_
    clear hg_ hnew_
    (first | rw [← Ny116.out] at ho8 | (simp only [Int.reduceToNat] at ho8; rw [← Ny116.out] at ho8))
    replace HO0_4 := am (Kd.V_elder' (vB HO0_4) (Kd.N_base ho8) hb)
    replace HO1 := am (Kd.V_elder' (vB HO1) (Kd.N_base ho8) hb)
    have HO118 := am (Kd.N_lower ho8 (below_size (kL HB)))
    replace BK115 := am (bB (kB BK115) hb)
    replace HB := am (below_step (kL HB) hb)
    clear hb ho8
    refine hK.out _ _ ⟨(blk_cell BK115.out 0).trans rfl, (blk_cell BK115.out 1).trans rfl, (blk_cell BK115.out 2).trans rfl, (blk_cell BK115.out 3).trans rfl, (blk_cell BK115.out 4).trans rfl⟩ (fun hHeld => ?_)
    clear hK K
    refine norm_ (a' := ?_) ?_ ?_
    rotate_left
    ·show Act.put _ (some 6) _ = _
     simp only [Act.put, zT, z0, zS, i64_w, i32_w]
     rfl
    refine one_ (i := 3) (N := some 8) #[true, true, true, true, false, false] rfl rfl (by kernel_rfl) (by decide) (fun K hK => ?_)
    refine goes_ Try.func48 (by kernel_rfl) rfl #[.slice A1 l1.length c1] (by rfl) rfl rfl yA ?_
    with_reducible refine (api_Node_48.calls k (fun k_ => ((((P0_4_ k_ ∨ P1_ k_) ∨ w.heap.size ≤ k_) ∧ k_ ≠ gb115) ∧ some k_ ≠ (v117 : Value).ownBlock)) _ _ l1 t119 _ ?side1 A3.out).mono ?_
    (case side1 => exact HO1.out)
    rintro e w9 ⟨v120, rfl, ho0, hb⟩
    refine ⟨_, rfl, ?_⟩
    replace HO0_4 := am (Kd.V_elder' (vB HO0_4) (Kd.N_base ho0) hb)
    replace HO1 := am (Kd.V_elder' (vB HO1) (Kd.N_base ho0) hb)
    have HO121 := am (Kd.N_lower (Kd.N_mono (ok' := fun k_ => ((P0_4_ k_ ∨ P1_ k_) ∨ w.heap.size ≤ k_) ∧ some k_ ≠ (v117 : Value).ownBlock ∧ k_ ≠ gb115) ho0 (fun k_ hk_ => ⟨Or.elim hk_ (fun hs_ => hs_.1.1) (fun hn_ => (.inr (Nat.le_trans (below_size (kL HB)) hn_))), Or.elim hk_ (fun hs_ => hs_.2) (fun hn_ => (Kd.fresh' (Kd.N_lt (nB HO118)) k_ hn_)), Or.elim hk_ (fun hs_ => hs_.1.2) (fun hn_ => (Kd.freshB (g := gb115) (o := .cells #[.int .i64 a0_0, .string a0_1, .string a0_2, .string a0_3, .slice A0_4 l0_4.length c0_4] 25 (0, 0)) (kB BK115) k_ hn_))⟩)) (below_size (kL HB)))
    replace HO118 := am (Kd.N_elder' (nB HO118) (Kd.N_base ho0) hb)
    replace BK115 := am (bB (kB BK115) hb)
    replace HB := am (below_step (kL HB) hb)
    (try clear hb)
    (try clear hb2)
    (try clear hk)
    (try clear hi)
    (try clear ho0)
    refine hK.out _ _ ⟨(blk_cell BK115.out 0).trans rfl, (blk_cell BK115.out 1).trans rfl, (blk_cell BK115.out 2).trans rfl, (blk_cell BK115.out 3).trans rfl, (blk_cell BK115.out 4).trans rfl⟩ (fun hHeld => ?_)
    clear hK K
    refine norm_ (a' := ?_) ?_ ?_
    rotate_left
    ·show Act.put _ (some 8) _ = _
     simp only [Act.put, zT, z0, zS, i64_w, i32_w]
     rfl
    exact norm_ (by simp only [putAll, Act.put, zT, z0, zS]) (hCont (v117, v120) _ ⟨hHeld, (Kd.V_mono (vB HO0_4) (fun _ hk => ⟨hk.1.1.1, ⟨hk.1.2, ⟨hk.2, hk.1.1.2⟩⟩⟩)), (Kd.V_mono (vB HO1) (fun _ hk => ⟨hk.1.1.1, ⟨hk.1.2, ⟨hk.2, hk.1.1.2⟩⟩⟩)), (Kd.N_mono (nB HO118) (fun _ hk => ⟨hk.1.1, ⟨hk.2, hk.1.2⟩⟩)), (nB HO121), (kB BK115), (kL HB)⟩)
   ·skip
    refine goes_ Try.func48 (by kernel_rfl) rfl #[.slice A1 l1.length c1] (by rfl) rfl rfl yA ?_
    with_reducible refine (api_Node_48.calls k (fun k_ => (((P0_4_ k_ ∨ P1_ k_) ∨ w.heap.size ≤ k_) ∧ k_ ≠ gb115)) _ _ l1 t119 _ ?side1 A3.out).mono ?_
    (case side1 => exact HO1.out)
    rintro e w7 ⟨v120, rfl, ho0, hb⟩
    refine ⟨_, rfl, ?_⟩
    replace HO0_4 := am (Kd.V_elder' (vB HO0_4) (Kd.N_base ho0) hb)
    replace HO1 := am (Kd.V_elder' (vB HO1) (Kd.N_base ho0) hb)
    have HO121 := am (Kd.N_lower (Kd.N_mono (ok' := fun k_ => ((P0_4_ k_ ∨ P1_ k_) ∨ w.heap.size ≤ k_) ∧ k_ ≠ gb115) ho0 (fun k_ hk_ => ⟨Or.elim hk_ (fun hs_ => hs_.1) (fun hn_ => (.inr (Nat.le_trans (below_size (kL HB)) hn_))), Or.elim hk_ (fun hs_ => hs_.2) (fun hn_ => (Kd.freshB (g := gb115) (o := .cells #[.int .i64 a0_0, .string a0_1, .string a0_2, .string a0_3, .slice A0_4 l0_4.length c0_4] 25 (0, 0)) (kB BK115) k_ hn_))⟩)) (below_size (kL HB)))
    replace BK115 := am (bB (kB BK115) hb)
    replace HB := am (below_step (kL HB) hb)
    (try clear hb)
    (try clear hb2)
    (try clear hk)
    (try clear hi)
    (try clear ho0)
    refine hK.out _ _ ⟨(blk_cell BK115.out 0).trans rfl, (blk_cell BK115.out 1).trans rfl, (blk_cell BK115.out 2).trans rfl, (blk_cell BK115.out 3).trans rfl, (blk_cell BK115.out 4).trans rfl⟩ (fun hHeld => ?_)
    clear hK K
    refine norm_ (a' := ?_) ?_ ?_
    rotate_left
    ·show Act.put _ (some 8) _ = _
     simp only [Act.put, zT, z0, zS, i64_w, i32_w]
     rfl
    refine one_ (i := 1) (N := some 6) #[true, true, true, true, false, false] rfl rfl (by kernel_rfl) (by decide) (fun K hK => ?_)
    refine Kd.N_lit_step k25 _ 25 ?hg (N' := 6) ?hd (xs := ([(⟨a0_0, a0_1, a0_2, a0_3, l0_4⟩ : S25)] : List (S25))) (inner := [.int .i64 a0_0, .string a0_1, .string a0_2, .string a0_3, .slice A0_4 l0_4.length c0_4]) (ok := (fun k_ => ((P0_4_ k_ ∨ P1_ k_) ∨ w.heap.size ≤ k_) ∧ some k_ ≠ (v120 : Value).ownBlock ∧ k_ ≠ gb115)) (okp := (fun k_ => ((P0_4_ k_ ∨ P1_ k_) ∨ w.heap.size ≤ k_) ∧ some k_ ≠ (v120 : Value).ownBlock ∧ k_ ≠ gb115)) ?hr ?hp (fun _ hk => hk) ((show ∀ k_, w7.heap.size ≤ k_ → (fun k_ => ((P0_4_ k_ ∨ P1_ k_) ∨ w.heap.size ≤ k_) ∧ some k_ ≠ (v120 : Value).ownBlock ∧ k_ ≠ gb115) k_ from fun k_ hk => ⟨(.inr (Nat.le_trans (below_size (kL HB)) hk)), Kd.fresh' (Kd.N_lt (nB HO121)) k_ hk, Kd.freshB (g := gb115) (o := .cells #[.int .i64 a0_0, .string a0_1, .string a0_2, .string a0_3, .slice A0_4 l0_4.length c0_4] 25 (0, 0)) (kB BK115) k_ hk⟩) _ (Nat.le_refl _)) (Below.refl _ _) (Nat.le_refl _) (by simp) ?_; (case hd => rfl); (case hg => rfl); (case hr => first | (go_simp; done) | (go_simp; rfl)); (case hp => exact (Reps.c5 (show Kd.FK k25 _ _ (⟨a0_0, a0_1, a0_2, a0_3, l0_4⟩ : S25) [.int .i64 a0_0, .string a0_1, .string a0_2, .string a0_3, .slice A0_4 l0_4.length c0_4] from (k25_mkF _ _ (⟨a0_0, a0_1, a0_2, a0_3, l0_4⟩ : S25) (Kd.V_reads' (Kd.V_mono (ok' := (fun k_ => ((P0_4_ k_ ∨ P1_ k_) ∨ w.heap.size ≤ k_) ∧ some k_ ≠ (v120 : Value).ownBlock ∧ k_ ≠ gb115)) (HO0_4.out) (fun k_ hk => ⟨hk.1.1, ⟨hk.2, hk.1.2⟩⟩))).2.1 (Kd.V_F (Kd.V_mono (ok' := (fun k_ => ((P0_4_ k_ ∨ P1_ k_) ∨ w.heap.size ≤ k_) ∧ some k_ ≠ (v120 : Value).ownBlock ∧ k_ ≠ gb115)) (HO0_4.out) (fun k_ hk => ⟨hk.1.1, ⟨hk.2, hk.1.2⟩⟩))))) (Reps.none _ _)))
    intro v117 w8 ho9 hb hg_ hnew_
    clear hg_ hnew_
    (first | rw [← Ny116.out] at ho9 | (simp only [Int.reduceToNat] at ho9; rw [← Ny116.out] at ho9))
    replace HO0_4 := am (Kd.V_elder' (vB HO0_4) (Kd.N_base ho9) hb)
    replace HO1 := am (Kd.V_elder' (vB HO1) (Kd.N_base ho9) hb)
    replace HO121 := am (Kd.N_elder' (nB HO121) (Kd.N_base ho9) hb)
    have HO118 := am (Kd.N_lower ho9 (below_size (kL HB)))
    replace BK115 := am (bB (kB BK115) hb)
    replace HB := am (below_step (kL HB) hb)
    clear hb ho9
    refine hK.out _ _ ⟨(blk_cell BK115.out 0).trans rfl, (blk_cell BK115.out 1).trans rfl, (blk_cell BK115.out 2).trans rfl, (blk_cell BK115.out 3).trans rfl, (blk_cell BK115.out 4).trans rfl⟩ (fun hHeld => ?_)
    clear hK K
    refine norm_ (a' := ?_) ?_ ?_
    rotate_left
    ·show Act.put _ (some 6) _ = _
     simp only [Act.put, zT, z0, zS, i64_w, i32_w]
     rfl
    exact norm_ (by simp only [putAll, Act.put, zT, z0, zS]) (hCont (v117, v120) _ ⟨hHeld, (Kd.V_mono (vB HO0_4) (fun _ hk => ⟨hk.1.1.1, ⟨hk.2, ⟨hk.1.2, hk.1.1.2⟩⟩⟩)), (Kd.V_mono (vB HO1) (fun _ hk => ⟨hk.1.1.1, ⟨hk.2, ⟨hk.1.2, hk.1.1.2⟩⟩⟩)), (nB HO118), (Kd.N_mono (nB HO121) (fun _ hk => ⟨hk.1.1, ⟨hk.2, hk.1.2⟩⟩)), (kB BK115), (kL HB)⟩)
  rintro ⟨v117, v120⟩ w10 ⟨hS_, h0_, h1_, h2_, h3_, h4_, h5_⟩
  have n0_ : Aside0 (Kd.V Kd.string 9 w10 w.heap.size (fun k_ => ((P0_4_ k_ ∨ P1_ k_) ∨ w.heap.size ≤ k_) ∧ some k_ ≠ (v117 : Value).ownBlock ∧ some k_ ≠ (v120 : Value).ownBlock ∧ k_ ≠ gb115) (.slice A0_4 l0_4.length c0_4) l0_4) := ⟨h0_⟩
  have n1_ : Aside0 (Kd.V (Kd.slice 25 k25) 22 w10 w.heap.size (fun k_ => ((P0_4_ k_ ∨ P1_ k_) ∨ w.heap.size ≤ k_) ∧ some k_ ≠ (v117 : Value).ownBlock ∧ some k_ ≠ (v120 : Value).ownBlock ∧ k_ ≠ gb115) (.slice A1 l1.length c1) l1) := ⟨h1_⟩
  have n2_ : Aside0 (Kd.N k25 25 w10 w.heap.size (fun k_ => ((P0_4_ k_ ∨ P1_ k_) ∨ w.heap.size ≤ k_) ∧ some k_ ≠ (v120 : Value).ownBlock ∧ k_ ≠ gb115) v117 y116) := ⟨h2_⟩
  have n3_ : Aside0 (Kd.N k25 25 w10 w.heap.size (fun k_ => ((P0_4_ k_ ∨ P1_ k_) ∨ w.heap.size ≤ k_) ∧ some k_ ≠ (v117 : Value).ownBlock ∧ k_ ≠ gb115) v120 t119) := ⟨h3_⟩
  have n4_ : Aside0 (w10.heap[gb115]? = some (.cells #[.int .i64 a0_0, .string a0_1, .string a0_2, .string a0_3, .slice A0_4 l0_4.length c0_4] 25 (0, 0))) := ⟨h4_⟩
  have n5_ : Aside0 (Below w.heap.size w w10) := ⟨h5_⟩
  clear HO0_4
  clear HO1
  clear BK115
  clear HB
  clear h0_ h1_ h2_ h3_ h4_ h5_
  have HO0_4 := n0_
  have HO1 := n1_
  have HO118 := n2_
  have HO121 := n3_
  have BK115 := n4_
  have HB := n5_
  clear n0_ n1_ n2_ n3_ n4_ n5_
  have hHeld : w10.cell? ⟨gb115, 0, none⟩ = some (.int .i64 a0_0) ∧ w10.cell? ⟨gb115, 1, none⟩ = some (.string a0_1) ∧ w10.cell? ⟨gb115, 2, none⟩ = some (.string a0_2) ∧ w10.cell? ⟨gb115, 3, none⟩ = some (.string a0_3) ∧ w10.cell? ⟨gb115, 4, none⟩ = some (.slice A0_4 l0_4.length c0_4) := hS_
  obtain ⟨Ao12, co12, eo12⟩ := Kd.N_slice HO121.out
  (first | subst eo12 | (injection eo12 with f1_ f2_ f3_; have f4_ := f1_.symm; have f5_ := f3_.symm; clear f1_ f2_ f3_; subst f4_; subst f5_))
  refine norm_ (a' := ?_) ?_ ?_
  rotate_left
  ·simp only [putAll, Act.put, zT, z0, zS]
   rfl
  refine one_ (i := 4) (N := some 9) #[true, true, true, true, true, false] rfl rfl (by kernel_rfl) (by decide) (fun K hK => ?_)
  refine Kd.N_append_rows_step k25 (w0 := w) w.heap.size (by rfl) (.tmp 6) (.tmp 8) 22 25 (.agg #[(.int .i64 0), (.string ⟨#[]⟩), (.string ⟨#[]⟩), (.string ⟨#[]⟩), (.slice none 0 0)]) 80 rfl Try.underlying22 info25 rfl (by decide) (by omega) v117 y116 t119 _ _ _ (fun k_ => ((P0_4_ k_ ∨ P1_ k_) ∨ w.heap.size ≤ k_) ∧ k_ ≠ gb115) (fun k_ => ((fun k_ => ((P0_4_ k_ ∨ P1_ k_) ∨ w.heap.size ≤ k_) ∧ k_ ≠ gb115)) k_ ∧ some k_ ≠ (v117 : Value).ownBlock) rfl rfl ?aO ?aR (fun _ hk => hk) ?aF ?aB ?aS ?aL ?_
  (case aR => exact (by skip; exact Kd.N_F (Kd.N_mono (ok' := (fun k_ => ((fun k_ => ((P0_4_ k_ ∨ P1_ k_) ∨ w.heap.size ≤ k_) ∧ k_ ≠ gb115)) k_ ∧ some k_ ≠ (v117 : Value).ownBlock)) (HO121.out) (fun k_ hk => ⟨⟨hk.1, hk.2.2⟩, hk.2.1⟩))))
  (case aB => exact (kL HB))
  (case aF => exact (fun k_ hk => ⟨(.inr (Nat.le_trans (below_size (kL HB)) hk)), Kd.freshB (g := gb115) (o := .cells #[.int .i64 a0_0, .string a0_1, .string a0_2, .string a0_3, .slice A0_4 l0_4.length c0_4] 25 (0, 0)) (kB BK115) k_ hk⟩))
  (case aO => exact (Kd.N_mono (nB HO118) (fun _ hk => ⟨hk.1, hk.2.2⟩)))
  (case aS => exact (below_size (kL HB)))
  (case aL => have := LMc4.out; omega)
  intro v123 w11 ho hb hg hat
  rw [← Ny122.out] at ho
  have n0_ := am (Kd.V_afterv (ok := (fun k_ => ((P0_4_ k_ ∨ P1_ k_) ∨ w.heap.size ≤ k_) ∧ some k_ ≠ (.slice Ao12 t119.length co12 : Value).ownBlock ∧ k_ ≠ gb115)) (Kd.V_mono (vB HO0_4) (fun _ hk => ⟨⟨hk.1, ⟨hk.2.2.1, hk.2.2.2⟩⟩, hk.2.1⟩)) hg hat)
  have n1_ := am (Kd.V_afterv (ok := (fun k_ => ((P0_4_ k_ ∨ P1_ k_) ∨ w.heap.size ≤ k_) ∧ some k_ ≠ (.slice Ao12 t119.length co12 : Value).ownBlock ∧ k_ ≠ gb115)) (Kd.V_mono (vB HO1) (fun _ hk => ⟨⟨hk.1, ⟨hk.2.2.1, hk.2.2.2⟩⟩, hk.2.1⟩)) hg hat)
  have n2_ := am (blk_grown (g := gb115) (o := .cells #[.int .i64 a0_0, .string a0_1, .string a0_2, .string a0_3, .slice A0_4 l0_4.length c0_4] 25 (0, 0)) (kB BK115) hg (Kd.N_away HO118.out (fun _ hk => hk.2.2)))
  have n3_ := am (Kd.N_afterv (ok := (fun k_ => ((P0_4_ k_ ∨ P1_ k_) ∨ w.heap.size ≤ k_) ∧ k_ ≠ gb115)) (Kd.N_mono (nB HO121) (fun _ hk => ⟨⟨hk.1, hk.2.2⟩, hk.2.1⟩)) hg hat)
  have n4_ := am hb
  have n5_ := am (ho)
  clear HO0_4
  clear HO1
  clear BK115
  clear HO121
  clear HB
  clear HO118
  have HO0_4 := n0_
  have HO1 := n1_
  have BK115 := n2_
  have HO121 := n3_
  have HB := n4_
  have HO124 := n5_
  clear n0_ n1_ n2_ n3_ n4_ n5_
  clear ho hb hg hat
  refine hK.out _ _ ⟨(blk_cell BK115.out 0).trans rfl, (blk_cell BK115.out 1).trans rfl, (blk_cell BK115.out 2).trans rfl, (blk_cell BK115.out 3).trans rfl, (blk_cell BK115.out 4).trans rfl⟩ (fun hHeld => ?_)
  clear hK K
  refine norm_ (a' := ?_) ?_ ?_
  rotate_left
  ·show Act.put _ (some 9) _ = _
   simp only [Act.put, zT, z0, zS, i64_w, i32_w]
   rfl
  refine pure_ (i := 5) (N := some 4) (v := ?_) (a' := ?_) #[true, true, true, true, true, true] rfl rfl (by kernel_rfl) (fun _ _ _ h => h) (Or.inl ⟨by rfl, ?_⟩) ?_ ?_
  rotate_left
  ·intro w'
   go_simp
   with_reducible rfl
  rotate_left
  ·simp only [Act.put, zT, z0, zS, i64_w, i32_w]
   rfl
  refine done_ (by kernel_rfl) ?_
  try go_wp2
  go_ret
  exact ⟨_, yE, Kd.N_mono (nB HO124) (fun _ hk => hk.1), (kL HB)⟩
 ·rw [if_neg c4] at H
  exact absurd H (by simp)
def parse_parser_is.f (s0_0 : List (S71)) (s0_1 : Int) (s0_2 : Int) (s0_3 : Bool) (a1 : Int) (a2 : ByteArray) : Option (Bool × Int × Int × Bool) := (parse_parser_look.f s0_0 s0_1 s0_2 s0_3 a1).bind fun bt125 => (if bt125.1 = 6 then (some ((bt125.2.1.toList == a2.toList), bt125.2.2.2.1, bt125.2.2.2.2.1, bt125.2.2.2.2.2)) else (some (false, bt125.2.2.2.1, bt125.2.2.2.2.1, bt125.2.2.2.2.2)))
set_option maxHeartbeats 8000000 in
set_option maxRecDepth 100000 in
theorem parse_parser_is.calls (g : Nat) (s0_0 : List (S71)) (s0_1 : Int) (s0_2 : Int) (s0_3 : Bool) (a1 : Int) (a2 : ByteArray) (r1 : Bool) (r2 : Int) (r3 : Int) (r4 : Bool) (w0 w : World) (hI : IsS83 w0 w g s0_0 s0_1 s0_2 s0_3) (hB : Below w0.heap.size w0 w) (h : parse_parser_is.f s0_0 s0_1 s0_2 s0_3 a1 a2 = some (r1, r2, r3, r4)) :
  Calls Try.prog 92 #[.pointer (some ⟨g, 0, none⟩), .int .i64 a1, .string a2] w fun e w' => e = .returned (.bool r1) ∧ IsS83 w0 w' g s0_0 r2 r3 r4 ∧ Below w0.heap.size w0 w' ∧ KeepBut w w' g none := by
 have hu71 := Try.underlying71
 have HI0 := am hI
 have HK := am (KeepBut.refl w g none)
 have HL := am hB.size
 clear hI
 have HW0 := am hB.size
 have HB := am hB
 clear hB
 have H : ((parse_parser_look.f s0_0 s0_1 s0_2 s0_3 a1).bind fun bt125 => (if bt125.1 = 6 then (some ((bt125.2.1.toList == a2.toList), bt125.2.2.2.1, bt125.2.2.2.2.1, bt125.2.2.2.2.2)) else (some (false, bt125.2.2.2.1, bt125.2.2.2.2.1, bt125.2.2.2.2.2)))) = some (r1, r2, r3, r4) := h
 clear h
 replace H := Option.bind_eq_some_iff.mp H
 obtain ⟨⟨t125, t126, t127, t128, t129, t130⟩, A40, H⟩ := H
 try dsimp only at H
 have A4 := am A40
 clear A40
 by_cases c5 : t125 = 6
 ·rw [if_pos c5] at H
  have c5b0 := eT c5
  have c5b1 := nF c5
  clear c5
  simp only [Option.some.injEq, Prod.mk.injEq] at H
  obtain ⟨rfl, rfl, rfl, rfl⟩ := H
  go_enter Try.func92, Try.ntmps92
  go_wp2_with (first | ((with_reducible refine gC 67 rfl ?_); refine gL (some 10) Try.func67 #[.pointer (some ⟨g, 0, none⟩), .int .i64 a1] ?_; (with_reducible refine (parse_parser_look.calls _ _ _ _ _ _ _ _ _ _ _ _ w0 _ ?side1 ?side2 A4.out).mono ?_); (case side1 => exact yI); (case side2 => exact (kLI HB)); rintro e w6 ⟨rfl, hi, hb, hk⟩; refine ⟨_, rfl, ?_⟩; replace HK := am (KeepBut.trans (kK HK) hk (.inl rfl)); replace HB := am hb; replace HI0 := am hi; (try clear hi hb hk)) | ((with_reducible refine gD 7 rfl ?_); refine bx 7 #[.int .i64 0, .string (⟨#[]⟩ : ByteArray), .int .i64 0] 71 ?_; intro gb131 hg w7 hbox hb; replace HB := am (below_step (kLI HB) hb); have BK131 := am hbox; have GW131 := am ((by rw [hg]; exact (keep_size (w := w) (g := g) (row := none) (kK HK)) : w.heap.size ≤ gb131)); have GE131 := am ((Nat.le_trans HW0.out (by rw [hg]; exact (keep_size (w := w) (g := g) (row := none) (kK HK)) : w.heap.size ≤ gb131) : w0.heap.size ≤ gb131)); replace HK := am (KeepBut.trans (kK HK) (KeepBut.of_below hb g none) (.inl rfl)); have NB0_131 := am ((by rw [hg]; exact Nat.ne_of_lt (IsS83.lt (show IsS83 w0 _ g s0_0 t128 t129 t130 from yI)) : g ≠ gb131)); have NB131_0 := am ((by rw [hg]; exact Nat.ne_of_gt (IsS83.lt (show IsS83 w0 _ g s0_0 t128 t129 t130 from yI)) : gb131 ≠ g)); replace HI0 := am (IsS83.below yI hb); clear hb hbox hg; have hnb8 := NB131_0.out; have hnc8 := NB0_131.out; obtain ⟨hcz9_0, hcz9_1, hcz9_2, hfz9_0, hfz9_1, hfz9_2⟩ := bk3 BK131.out))
  go_ret
  exact ⟨yE, yI, (kLI HB), (kK HK)⟩
 ·rw [if_neg c5] at H
  have c5b0 := eF c5
  have c5b1 := nT c5
  simp only [Option.some.injEq, Prod.mk.injEq] at H
  obtain ⟨rfl, rfl, rfl, rfl⟩ := H
  go_enter Try.func92, Try.ntmps92
  go_wp2_with (first | ((with_reducible refine gC 67 rfl ?_); refine gL (some 10) Try.func67 #[.pointer (some ⟨g, 0, none⟩), .int .i64 a1] ?_; (with_reducible refine (parse_parser_look.calls _ _ _ _ _ _ _ _ _ _ _ _ w0 _ ?side1 ?side2 A4.out).mono ?_); (case side1 => exact yI); (case side2 => exact (kLI HB)); rintro e w10 ⟨rfl, hi, hb, hk⟩; refine ⟨_, rfl, ?_⟩; replace HK := am (KeepBut.trans (kK HK) hk (.inl rfl)); replace HB := am hb; replace HI0 := am hi; (try clear hi hb hk)) | ((with_reducible refine gD 7 rfl ?_); refine bx 7 #[.int .i64 0, .string (⟨#[]⟩ : ByteArray), .int .i64 0] 71 ?_; intro gb131 hg w11 hbox hb; replace HB := am (below_step (kLI HB) hb); have BK131 := am hbox; have GW131 := am ((by rw [hg]; exact (keep_size (w := w) (g := g) (row := none) (kK HK)) : w.heap.size ≤ gb131)); have GE131 := am ((Nat.le_trans HW0.out (by rw [hg]; exact (keep_size (w := w) (g := g) (row := none) (kK HK)) : w.heap.size ≤ gb131) : w0.heap.size ≤ gb131)); replace HK := am (KeepBut.trans (kK HK) (KeepBut.of_below hb g none) (.inl rfl)); have NB0_131 := am ((by rw [hg]; exact Nat.ne_of_lt (IsS83.lt (show IsS83 w0 _ g s0_0 t128 t129 t130 from yI)) : g ≠ gb131)); have NB131_0 := am ((by rw [hg]; exact Nat.ne_of_gt (IsS83.lt (show IsS83 w0 _ g s0_0 t128 t129 t130 from yI)) : gb131 ≠ g)); replace HI0 := am (IsS83.below yI hb); clear hb hbox hg; have hnb12 := NB131_0.out; have hnc12 := NB0_131.out; obtain ⟨hcz13_0, hcz13_1, hcz13_2, hfz13_0, hfz13_1, hfz13_2⟩ := bk3 BK131.out))
  go_ret
  exact ⟨yE, yI, (kLI HB), (kK HK)⟩
def parse_parser_verbs.f (s0_0 : List (S71)) (s0_1 : Int) (s0_2 : Int) (s0_3 : Bool) : Option (Bool × Int × Int × Bool) := (parse_parser_look.f s0_0 s0_1 s0_2 s0_3 0).bind fun bt132 => (if bt132.1 = 4 then (some (true, bt132.2.2.2.1, bt132.2.2.2.2.1, bt132.2.2.2.2.2)) else (if bt132.1 = 3 then (some (true, bt132.2.2.2.1, bt132.2.2.2.2.1, bt132.2.2.2.2.2)) else ((parse_parser_is.f s0_0 bt132.2.2.2.1 bt132.2.2.2.2.1 bt132.2.2.2.2.2 0 (⟨#[123]⟩ : ByteArray)).bind fun bt139 => (some (bt139.1, bt139.2.1, bt139.2.2.1, bt139.2.2.2)))))
set_option maxHeartbeats 8000000 in
set_option maxRecDepth 100000 in
theorem parse_parser_verbs.calls (g : Nat) (s0_0 : List (S71)) (s0_1 : Int) (s0_2 : Int) (s0_3 : Bool) (r1 : Bool) (r2 : Int) (r3 : Int) (r4 : Bool) (w0 w : World) (hI : IsS83 w0 w g s0_0 s0_1 s0_2 s0_3) (hB : Below w0.heap.size w0 w) (h : parse_parser_verbs.f s0_0 s0_1 s0_2 s0_3 = some (r1, r2, r3, r4)) :
  Calls Try.prog 110 #[.pointer (some ⟨g, 0, none⟩)] w fun e w' => e = .returned (.bool r1) ∧ IsS83 w0 w' g s0_0 r2 r3 r4 ∧ Below w0.heap.size w0 w' ∧ KeepBut w w' g none := by
 have hu71 := Try.underlying71
 have HI0 := am hI
 have HK := am (KeepBut.refl w g none)
 have HL := am hB.size
 clear hI
 have HW0 := am hB.size
 have HB := am hB
 clear hB
 have H : ((parse_parser_look.f s0_0 s0_1 s0_2 s0_3 0).bind fun bt132 => (if bt132.1 = 4 then (some (true, bt132.2.2.2.1, bt132.2.2.2.2.1, bt132.2.2.2.2.2)) else (if bt132.1 = 3 then (some (true, bt132.2.2.2.1, bt132.2.2.2.2.1, bt132.2.2.2.2.2)) else ((parse_parser_is.f s0_0 bt132.2.2.2.1 bt132.2.2.2.2.1 bt132.2.2.2.2.2 0 (⟨#[123]⟩ : ByteArray)).bind fun bt139 => (some (bt139.1, bt139.2.1, bt139.2.2.1, bt139.2.2.2)))))) = some (r1, r2, r3, r4) := h
 clear h
 replace H := Option.bind_eq_some_iff.mp H
 obtain ⟨⟨t132, t133, t134, t135, t136, t137⟩, A20, H⟩ := H
 try dsimp only at H
 have A2 := am A20
 clear A20
 by_cases c3 : t132 = 4
 ·rw [if_pos c3] at H
  have c3b0 := eT c3
  have c3b1 := nF c3
  clear c3
  simp only [Option.some.injEq, Prod.mk.injEq] at H
  obtain ⟨rfl, rfl, rfl, rfl⟩ := H
  go_enter Try.func110, Try.ntmps110
  go_wp2_with (first | ((with_reducible refine gC 67 rfl ?_); refine gL (some 5) Try.func67 #[.pointer (some ⟨g, 0, none⟩), .int .i64 0] ?_; (with_reducible refine (parse_parser_look.calls _ _ _ _ _ _ _ _ _ _ _ _ w0 _ ?side1 ?side2 A2.out).mono ?_); (case side1 => exact yI); (case side2 => exact (kLI HB)); rintro e w4 ⟨rfl, hi, hb, hk⟩; refine ⟨_, rfl, ?_⟩; replace HK := am (KeepBut.trans (kK HK) hk (.inl rfl)); replace HB := am hb; replace HI0 := am hi; (try clear hi hb hk)) | ((with_reducible refine gD 3 rfl ?_); refine bx 3 #[.int .i64 0, .string (⟨#[]⟩ : ByteArray), .int .i64 0] 71 ?_; intro gb138 hg w5 hbox hb; replace HB := am (below_step (kLI HB) hb); have BK138 := am hbox; have GW138 := am ((by rw [hg]; exact (keep_size (w := w) (g := g) (row := none) (kK HK)) : w.heap.size ≤ gb138)); have GE138 := am ((Nat.le_trans HW0.out (by rw [hg]; exact (keep_size (w := w) (g := g) (row := none) (kK HK)) : w.heap.size ≤ gb138) : w0.heap.size ≤ gb138)); replace HK := am (KeepBut.trans (kK HK) (KeepBut.of_below hb g none) (.inl rfl)); have NB0_138 := am ((by rw [hg]; exact Nat.ne_of_lt (IsS83.lt (show IsS83 w0 _ g s0_0 t135 t136 t137 from yI)) : g ≠ gb138)); have NB138_0 := am ((by rw [hg]; exact Nat.ne_of_gt (IsS83.lt (show IsS83 w0 _ g s0_0 t135 t136 t137 from yI)) : gb138 ≠ g)); replace HI0 := am (IsS83.below yI hb); clear hb hbox hg; have hnb6 := NB138_0.out; have hnc6 := NB0_138.out; obtain ⟨hcz7_0, hcz7_1, hcz7_2, hfz7_0, hfz7_1, hfz7_2⟩ := bk3 BK138.out))
  go_ret
  exact ⟨yE, yI, (kLI HB), (kK HK)⟩
 ·rw [if_neg c3] at H
  have c3b0 := eF c3
  have c3b1 := nT c3
  by_cases c8 : t132 = 3
  ·rw [if_pos c8] at H
   have c8b0 := eT c8
   have c8b1 := nF c8
   clear c8
   simp only [Option.some.injEq, Prod.mk.injEq] at H
   obtain ⟨rfl, rfl, rfl, rfl⟩ := H
   go_enter Try.func110, Try.ntmps110
   go_wp2_with (first | ((with_reducible refine gC 67 rfl ?_); refine gL (some 5) Try.func67 #[.pointer (some ⟨g, 0, none⟩), .int .i64 0] ?_; (with_reducible refine (parse_parser_look.calls _ _ _ _ _ _ _ _ _ _ _ _ w0 _ ?side1 ?side2 A2.out).mono ?_); (case side1 => exact yI); (case side2 => exact (kLI HB)); rintro e w9 ⟨rfl, hi, hb, hk⟩; refine ⟨_, rfl, ?_⟩; replace HK := am (KeepBut.trans (kK HK) hk (.inl rfl)); replace HB := am hb; replace HI0 := am hi; (try clear hi hb hk)) | ((with_reducible refine gD 3 rfl ?_); refine bx 3 #[.int .i64 0, .string (⟨#[]⟩ : ByteArray), .int .i64 0] 71 ?_; intro gb138 hg w10 hbox hb; replace HB := am (below_step (kLI HB) hb); have BK138 := am hbox; have GW138 := am ((by rw [hg]; exact (keep_size (w := w) (g := g) (row := none) (kK HK)) : w.heap.size ≤ gb138)); have GE138 := am ((Nat.le_trans HW0.out (by rw [hg]; exact (keep_size (w := w) (g := g) (row := none) (kK HK)) : w.heap.size ≤ gb138) : w0.heap.size ≤ gb138)); replace HK := am (KeepBut.trans (kK HK) (KeepBut.of_below hb g none) (.inl rfl)); have NB0_138 := am ((by rw [hg]; exact Nat.ne_of_lt (IsS83.lt (show IsS83 w0 _ g s0_0 t135 t136 t137 from yI)) : g ≠ gb138)); have NB138_0 := am ((by rw [hg]; exact Nat.ne_of_gt (IsS83.lt (show IsS83 w0 _ g s0_0 t135 t136 t137 from yI)) : gb138 ≠ g)); replace HI0 := am (IsS83.below yI hb); clear hb hbox hg; have hnb11 := NB138_0.out; have hnc11 := NB0_138.out; obtain ⟨hcz12_0, hcz12_1, hcz12_2, hfz12_0, hfz12_1, hfz12_2⟩ := bk3 BK138.out))
   go_ret
   exact ⟨yE, yI, (kLI HB), (kK HK)⟩
  ·rw [if_neg c8] at H
   have c8b0 := eF c8
   have c8b1 := nT c8
   replace H := Option.bind_eq_some_iff.mp H
   obtain ⟨⟨t139, t140, t141, t142⟩, A130, H⟩ := H
   try dsimp only at H
   have A13 := am A130
   clear A130
   simp only [Option.some.injEq, Prod.mk.injEq] at H
   obtain ⟨rfl, rfl, rfl, rfl⟩ := H
   go_enter Try.func110, Try.ntmps110
   go_wp2_with (first | ((with_reducible refine gC 67 rfl ?_); refine gL (some 5) Try.func67 #[.pointer (some ⟨g, 0, none⟩), .int .i64 0] ?_; (with_reducible refine (parse_parser_look.calls _ _ _ _ _ _ _ _ _ _ _ _ w0 _ ?side1 ?side2 A2.out).mono ?_); (case side1 => exact yI); (case side2 => exact (kLI HB)); rintro e w14 ⟨rfl, hi, hb, hk⟩; refine ⟨_, rfl, ?_⟩; replace HK := am (KeepBut.trans (kK HK) hk (.inl rfl)); replace HB := am hb; replace HI0 := am hi; (try clear hi hb hk)) | ((with_reducible refine gD 3 rfl ?_); refine bx 3 #[.int .i64 0, .string (⟨#[]⟩ : ByteArray), .int .i64 0] 71 ?_; intro gb138 hg w15 hbox hb; replace HB := am (below_step (kLI HB) hb); have BK138 := am hbox; have GW138 := am ((by rw [hg]; exact (keep_size (w := w) (g := g) (row := none) (kK HK)) : w.heap.size ≤ gb138)); have GE138 := am ((Nat.le_trans HW0.out (by rw [hg]; exact (keep_size (w := w) (g := g) (row := none) (kK HK)) : w.heap.size ≤ gb138) : w0.heap.size ≤ gb138)); replace HK := am (KeepBut.trans (kK HK) (KeepBut.of_below hb g none) (.inl rfl)); have NB0_138 := am ((by rw [hg]; exact Nat.ne_of_lt (IsS83.lt (show IsS83 w0 _ g s0_0 t135 t136 t137 from yI)) : g ≠ gb138)); have NB138_0 := am ((by rw [hg]; exact Nat.ne_of_gt (IsS83.lt (show IsS83 w0 _ g s0_0 t135 t136 t137 from yI)) : gb138 ≠ g)); replace HI0 := am (IsS83.below yI hb); clear hb hbox hg; have hnb16 := NB138_0.out; have hnc16 := NB0_138.out; obtain ⟨hcz17_0, hcz17_1, hcz17_2, hfz17_0, hfz17_1, hfz17_2⟩ := bk3 BK138.out) | (go_at_call 92; (with_reducible refine (parse_parser_is.calls _ _ _ _ _ _ _ _ _ _ _ w0 _ ?side1 ?side2 A13.out).mono ?_); (case side1 => exact yI); (case side2 => exact (kLI HB)); rintro e w18 ⟨rfl, hi, hb, hk⟩; replace BK138 := am (KeepBut.blk hk (g' := gb138) (o := .cells #[.int .i64 t132, .string t133, .int .i64 t134] 71 (0, 0)) (kM BK138) NB138_0.out (by simp)); replace HK := am (KeepBut.trans (kK HK) hk (.inl rfl)); replace HB := am hb; replace HI0 := am hi; (try clear hi hb hk)))
   go_ret
   exact ⟨yE, yI, (kLI HB), (kK HK)⟩
end Go.Proofs.Ytdelccahgchadaa.P
end
section
namespace Go.Proofs.Ytdelccahgchadaa.P
open Go.RowKit Go.Proofs.YtdelccahgchadaaW.PrintWords Go.Proofs.YtdelccahgchadaaW.PrintLast Go.Proofs.YtdelccahgchadaaW.PrintMore
attribute [local go_sem] max2_int min2_int max_two min_two max_three min_three max_four min_four   
set_option linter.unusedVariables false
set_option linter.unusedSimpArgs false
def parse_parser_mark.f (s0_0 : List (S71)) (s0_1 : Int) (s0_2 : Int) (s0_3 : Bool) (a1 : ByteArray) : Option (Int × Int × Bool) := (parse_parser_is.f s0_0 s0_1 s0_2 s0_3 0 a1).bind fun bt143 => (if bt143.1 = true then (some (wrap64 (bt143.2.1 + 1), bt143.2.2.1, bt143.2.2.2)) else (some (bt143.2.1, bt143.2.2.1, true)))
set_option maxHeartbeats 8000000 in
set_option maxRecDepth 100000 in
theorem parse_parser_mark.calls (g : Nat) (s0_0 : List (S71)) (s0_1 : Int) (s0_2 : Int) (s0_3 : Bool) (a1 : ByteArray) (r1 : Int) (r2 : Int) (r3 : Bool) (w0 w : World) (hI : IsS83 w0 w g s0_0 s0_1 s0_2 s0_3) (hB : Below w0.heap.size w0 w) (h : parse_parser_mark.f s0_0 s0_1 s0_2 s0_3 a1 = some (r1, r2, r3)) :
  Calls Try.prog 94 #[.pointer (some ⟨g, 0, none⟩), .string a1] w fun e w' => e = .returned (.tuple #[]) ∧ IsS83 w0 w' g s0_0 r1 r2 r3 ∧ Below w0.heap.size w0 w' ∧ KeepBut w w' g none := by
 have HI0 := am hI
 have HK := am (KeepBut.refl w g none)
 have HL := am hB.size
 clear hI
 have HW0 := am hB.size
 have HB := am hB
 clear hB
 have H : ((parse_parser_is.f s0_0 s0_1 s0_2 s0_3 0 a1).bind fun bt143 => (if bt143.1 = true then (some (wrap64 (bt143.2.1 + 1), bt143.2.2.1, bt143.2.2.2)) else (some (bt143.2.1, bt143.2.2.1, true)))) = some (r1, r2, r3) := h
 clear h
 replace H := Option.bind_eq_some_iff.mp H
 obtain ⟨⟨t143, t144, t145, t146⟩, A30, H⟩ := H
 try dsimp only at H
 have A3 := am A30
 clear A30
 by_cases c4 : t143 = true
 ·subst c4
  rw [if_pos rfl] at H
  simp only [Option.some.injEq, Prod.mk.injEq] at H
  obtain ⟨rfl, rfl, rfl⟩ := H
  go_enter Try.func94, Try.ntmps94
  go_wp2_with ((with_reducible refine gC 92 rfl ?_); refine gL (some 6) Try.func92 #[.pointer (some ⟨g, 0, none⟩), .int .i64 0, .string a1] ?_; (with_reducible refine (parse_parser_is.calls _ _ _ _ _ _ _ _ _ _ _ w0 _ ?side1 ?side2 A3.out).mono ?_); (case side1 => exact yI); (case side2 => exact (kLI HB)); rintro e w5 ⟨rfl, hi, hb, hk⟩; refine ⟨_, rfl, ?_⟩; replace HK := am (KeepBut.trans (kK HK) hk (.inl rfl)); replace HB := am hb; replace HI0 := am hi; (try clear hi hb hk); obtain ⟨ASz6_0, cSz6_0, HSz6_0, hcz6_0, hcz6_1, hcz6_2, hcz6_3, hfz6_1, hfz6_2, hfz6_3⟩ := IsS83.look HI0.out)
  first | go_end0 | ((try simp only [Exit.inBlock, Exit.then]); refine bodyPost_ret (results_none rfl _ _ _) rfl ?_)
  exact ⟨yE, yI, (kLI HB), (kK HK)⟩
 ·replace c4 := Bool.eq_false_iff.mpr c4
  subst c4
  rw [if_neg (show ¬ (false = true) by decide)] at H
  simp only [Option.some.injEq, Prod.mk.injEq] at H
  obtain ⟨rfl, rfl, rfl⟩ := H
  go_enter Try.func94, Try.ntmps94
  go_wp2_with ((with_reducible refine gC 92 rfl ?_); refine gL (some 6) Try.func92 #[.pointer (some ⟨g, 0, none⟩), .int .i64 0, .string a1] ?_; (with_reducible refine (parse_parser_is.calls _ _ _ _ _ _ _ _ _ _ _ w0 _ ?side1 ?side2 A3.out).mono ?_); (case side1 => exact yI); (case side2 => exact (kLI HB)); rintro e w7 ⟨rfl, hi, hb, hk⟩; refine ⟨_, rfl, ?_⟩; replace HK := am (KeepBut.trans (kK HK) hk (.inl rfl)); replace HB := am hb; replace HI0 := am hi; (try clear hi hb hk); obtain ⟨ASz8_0, cSz8_0, HSz8_0, hcz8_0, hcz8_1, hcz8_2, hcz8_3, hfz8_1, hfz8_2, hfz8_3⟩ := IsS83.look HI0.out)
  first | go_end0 | ((try simp only [Exit.inBlock, Exit.then]); refine bodyPost_ret (results_none rfl _ _ _) rfl ?_)
  exact ⟨yE, yI, (kLI HB), (kK HK)⟩
def parse_parser_verb.j0 (EXF : EX_F) : Nat → ByteArray → List (S25) → List (S71) → Int → Int → Bool → Int → ByteArray → ByteArray → ByteArray → Option (Int × ByteArray × ByteArray × ByteArray × List ByteArray × (List (S25)) × Int × Int × Bool)
 | 0, _, _, _, _, _, _, _, _, _, _ => none
 | k + 1, x2, x9, x1000, x1001, x1002, x1003, x155000, x155001, x155002, x155003 => (parse_parser_look.f x1000 x1001 x1002 x1003 0).bind fun bt164 => (if bt164.1 = 5 then (if (bt164.2.1.size : Int) = 1 then ((strings_Contains.f x2 bt164.2.1).bind fun t171 => (if t171 = true then (some (x155000, x155001, bt164.2.1, x155003, ([] : List ByteArray), x9, wrap64 (bt164.2.2.2.1 + 1), bt164.2.2.2.2.1, !t171)) else (some (x155000, x155001, bt164.2.1, x155003, ([] : List ByteArray), x9, wrap64 ((wrap64 (bt164.2.2.2.1 + 1)) - 1), bt164.2.2.2.2.1, !t171)))) else (some (x155000, x155001, bt164.2.1, x155003, ([] : List ByteArray), x9, wrap64 ((wrap64 (bt164.2.2.2.1 + 1)) - 1), bt164.2.2.2.2.1, true))) else (some (x155000, x155001, x155002, x155003, ([] : List ByteArray), x9, bt164.2.2.2.1, bt164.2.2.2.2.1, bt164.2.2.2.2.2)))
def parse_parser_verb.f (EXF : EX_F) (k : Nat) (s0_0 : List (S71)) (s0_1 : Int) (s0_2 : Int) (s0_3 : Bool) (a1 : Int) (a2 : ByteArray) : Option (Int × ByteArray × ByteArray × ByteArray × List ByteArray × (List (S25)) × Int × Int × Bool) := (parse_parser_look.f s0_0 s0_1 s0_2 s0_3 0).bind fun bt148 => (if bt148.2.1.toList = ([123] : List UInt8) then ((EXF s0_0 (wrap64 (bt148.2.2.2.1 + 1)) bt148.2.2.2.2.1 bt148.2.2.2.2.2).bind fun bt155 => ((parse_parser_mark.f s0_0 bt155.2.1 bt155.2.2.1 bt155.2.2.2 (⟨#[125]⟩ : ByteArray)).bind fun bt161 => (parse_parser_verb.j0 EXF k a2 bt155.1 s0_0 bt161.1 bt161.2.1 bt161.2.2 a1 bt148.2.1 (⟨#[]⟩ : ByteArray) (⟨#[]⟩ : ByteArray)))) else (parse_parser_verb.j0 EXF k a2 ([] : List (S25)) s0_0 (wrap64 (bt148.2.2.2.1 + 1)) bt148.2.2.2.2.1 bt148.2.2.2.2.2 a1 bt148.2.1 (⟨#[]⟩ : ByteArray) (⟨#[]⟩ : ByteArray)))
set_option maxHeartbeats 8000000 in
set_option maxRecDepth 100000 in
theorem parse_parser_verb.calls (EXF : EX_F) (EXC : EX_C EXF) (k : Nat) (g : Nat) (s0_0 : List (S71)) (s0_1 : Int) (s0_2 : Int) (s0_3 : Bool) (a1 : Int) (a2 : ByteArray) (r1 : Int) (r2 : ByteArray) (r3 : ByteArray) (r4 : ByteArray) (r5 : List ByteArray) (r6 : List (S25)) (r7 : Int) (r8 : Int) (r9 : Bool) (w0 w : World) (hI : IsS83 w0 w g s0_0 s0_1 s0_2 s0_3) (hB : Below w0.heap.size w0 w) (h : parse_parser_verb.f EXF k s0_0 s0_1 s0_2 s0_3 a1 a2 = some (r1, r2, r3, r4, r5, r6, r7, r8, r9)) :
  Calls Try.prog 111 #[.pointer (some ⟨g, 0, none⟩), .int .i64 a1, .string a2] w fun e w' => ∃ v4_ v5_ : Value, e = .returned (.tuple #[.agg #[.int .i64 r1, .string r2, .string r3, .string r4, v4_], v5_]) ∧ Kd.R Kd.string 9 w' w.heap.size (fun k_ => (w.heap.size ≤ k_)) v4_ r5 ∧ Kd.N k25 25 w' w.heap.size (fun k_ => (w.heap.size ≤ k_) ∧ some k_ ≠ (v4_ : Value).ownBlock) v5_ r6 ∧ IsS83 w0 w' g s0_0 r7 r8 r9 ∧ Below w0.heap.size w0 w' ∧ KeepBut w w' g none := by
 have hu25 := Try.underlying25
 have hu71 := Try.underlying71
 have HI0 := am hI
 have HK := am (KeepBut.refl w g none)
 have HL := am hB.size
 clear hI
 have HW0 := am hB.size
 have HB := am hB
 clear hB
 have H : ((parse_parser_look.f s0_0 s0_1 s0_2 s0_3 0).bind fun bt148 => (if bt148.2.1.toList = ([123] : List UInt8) then ((EXF s0_0 (wrap64 (bt148.2.2.2.1 + 1)) bt148.2.2.2.2.1 bt148.2.2.2.2.2).bind fun bt155 => ((parse_parser_mark.f s0_0 bt155.2.1 bt155.2.2.1 bt155.2.2.2 (⟨#[125]⟩ : ByteArray)).bind fun bt161 => (parse_parser_verb.j0 EXF k a2 bt155.1 s0_0 bt161.1 bt161.2.1 bt161.2.2 a1 bt148.2.1 (⟨#[]⟩ : ByteArray) (⟨#[]⟩ : ByteArray)))) else (parse_parser_verb.j0 EXF k a2 ([] : List (S25)) s0_0 (wrap64 (bt148.2.2.2.1 + 1)) bt148.2.2.2.2.1 bt148.2.2.2.2.2 a1 bt148.2.1 (⟨#[]⟩ : ByteArray) (⟨#[]⟩ : ByteArray)))) = some (r1, r2, r3, r4, r5, r6, r7, r8, r9) := h
 clear h
 replace H := Option.bind_eq_some_iff.mp H
 obtain ⟨⟨t148, t149, t150, t151, t152, t153⟩, A40, H⟩ := H
 try dsimp only at H
 have A4 := am A40
 clear A40
 have HC5 := am H
 clear H
 go_enter Try.func111, Try.ntmps111
 go_upto_if 25 with (first | ((with_reducible refine gD 6 rfl ?_); refine bx 6 #[.int .i64 0, .string (⟨#[]⟩ : ByteArray), .string (⟨#[]⟩ : ByteArray), .string (⟨#[]⟩ : ByteArray), .slice none 0 0] 25 ?_; intro gb147 hg w6 hbox hb; replace HB := am (below_step (kLI HB) hb); have BK147 := am hbox; have GW147 := am ((by rw [hg]; exact (keep_size (w := w) (g := g) (row := none) (kK HK)) : w.heap.size ≤ gb147)); have GE147 := am ((Nat.le_trans HW0.out (by rw [hg]; exact (keep_size (w := w) (g := g) (row := none) (kK HK)) : w.heap.size ≤ gb147) : w0.heap.size ≤ gb147)); replace HK := am (KeepBut.trans (kK HK) (KeepBut.of_below hb g none) (.inl rfl)); have NB0_147 := am ((by rw [hg]; exact Nat.ne_of_lt (IsS83.lt (show IsS83 w0 _ g s0_0 s0_1 s0_2 s0_3 from yI)) : g ≠ gb147)); have NB147_0 := am ((by rw [hg]; exact Nat.ne_of_gt (IsS83.lt (show IsS83 w0 _ g s0_0 s0_1 s0_2 s0_3 from yI)) : gb147 ≠ g)); replace HI0 := am (IsS83.below yI hb); clear hb hbox hg) | ((with_reducible refine gC 67 rfl ?_); refine gL (some 13) Try.func67 #[.pointer (some ⟨g, 0, none⟩), .int .i64 0] ?_; (with_reducible refine (parse_parser_look.calls _ _ _ _ _ _ _ _ _ _ _ _ w0 _ ?side1 ?side2 A4.out).mono ?_); (case side1 => exact yI); (case side2 => exact (kLI HB)); rintro e w7 ⟨rfl, hi, hb, hk⟩; refine ⟨_, rfl, ?_⟩; replace BK147 := am (KeepBut.blk hk (kB BK147) NB147_0.out (by simp)); replace HK := am (KeepBut.trans (kK HK) hk (.inl rfl)); replace HB := am hb; replace HI0 := am hi; (try clear hi hb hk)) | ((with_reducible refine gD 8 rfl ?_); refine bx 8 #[.int .i64 0, .string (⟨#[]⟩ : ByteArray), .string (⟨#[]⟩ : ByteArray), .string (⟨#[]⟩ : ByteArray), .slice none 0 0] 25 ?_; intro gb154 hg w8 hbox hb; replace HB := am (below_step (kLI HB) hb); have BK154 := am hbox; have GW154 := am ((by rw [hg]; exact (keep_size (w := w) (g := g) (row := none) (kK HK)) : w.heap.size ≤ gb154)); have GE154 := am ((Nat.le_trans HW0.out (by rw [hg]; exact (keep_size (w := w) (g := g) (row := none) (kK HK)) : w.heap.size ≤ gb154) : w0.heap.size ≤ gb154)); replace HK := am (KeepBut.trans (kK HK) (KeepBut.of_below hb g none) (.inl rfl)); have NB147_154 := am (neL hg (kB BK147)); have NB154_147 := am (neR hg (kB BK147)); replace BK147 := am (bB (kB BK147) hb); have NB0_154 := am ((by rw [hg]; exact Nat.ne_of_lt (IsS83.lt (show IsS83 w0 _ g s0_0 t151 t152 t153 from yI)) : g ≠ gb154)); have NB154_0 := am ((by rw [hg]; exact Nat.ne_of_gt (IsS83.lt (show IsS83 w0 _ g s0_0 t151 t152 t153 from yI)) : gb154 ≠ g)); replace HI0 := am (IsS83.below yI hb); clear hb hbox hg; have hnb9 := NB154_147.out; have hnc9 := NB147_154.out; have hnb10 := NB154_0.out; have hnc10 := NB0_154.out; obtain ⟨hcz11_0, hcz11_1, hcz11_2, hcz11_3, hcz11_4, hfz11_0, hfz11_1, hfz11_2, hfz11_3, hfz11_4⟩ := bk5 BK154.out; obtain ⟨ASz12_0, cSz12_0, HSz12_0, hcz12_0, hcz12_1, hcz12_2, hcz12_3, hfz12_1, hfz12_2, hfz12_3⟩ := IsS83.look HI0.out))
 (try simp only [Act.put, zT, z0, zS])
 go_cut [9] (fun v9 wc => ∃ (kq : Nat) (x9_4 : List (S25)) (x1001_4 : Int) (x1002_4 : Int) (x1003_4 : Bool), Aside0 (parse_parser_verb.j0 EXF kq a2 x9_4 s0_0 x1001_4 x1002_4 x1003_4 a1 t149 (⟨#[]⟩ : ByteArray) (⟨#[]⟩ : ByteArray) = some (r1, r2, r3, r4, r5, r6, r7, r8, r9)) ∧ Aside0 (kq ≤ k) ∧ Aside0 (Kd.N k25 25 wc w.heap.size (fun k_ => (w.heap.size ≤ k_) ∧ k_ ≠ gb147 ∧ k_ ≠ gb154 ∧ k_ ≠ g) v9 x9_4) ∧ Aside0 (wc.heap[gb147]? = some (.cells #[.int .i64 0, .string (⟨#[]⟩ : ByteArray), .string (⟨#[]⟩ : ByteArray), .string (⟨#[]⟩ : ByteArray), (.slice none 0 0)] 25 (0, 0))) ∧ Aside0 (wc.heap[gb154]? = some (.cells #[.int .i64 a1, .string t149, .string (⟨#[]⟩ : ByteArray), .string (⟨#[]⟩ : ByteArray), (.slice none 0 0)] 25 (0, 0))) ∧ Aside0 (IsS83 w0 wc g s0_0 x1001_4 x1002_4 x1003_4) ∧ Aside0 (KeepBut w wc g none) ∧ Aside0 (Below w0.heap.size w0 wc))
 case first =>
  have H := HC5.out
  clear HC5
  by_cases c13 : t149.toList = ([123] : List UInt8)
  ·rw [if_pos c13] at H
   have c13b0 := eT c13
   have c13b1 := nF c13
   clear c13
   (first | rw [c13b0] | (simp only [i64_w, i32_w]; rw [c13b0]) | skip)
   replace H := Option.bind_eq_some_iff.mp H
   obtain ⟨⟨t155, t158, t159, t160⟩, A140, H⟩ := H
   try dsimp only at H
   have A14 := am A140
   clear A140
   replace H := Option.bind_eq_some_iff.mp H
   obtain ⟨⟨t161, t162, t163⟩, A150, H⟩ := H
   try dsimp only at H
   have A15 := am A150
   clear A150
   have H' := am H
   clear H
   go_wp2_with (first | ((with_reducible refine gC 93 rfl ?_); refine gL (some 27) Try.func93 #[.pointer (some ⟨g, 0, none⟩)] ?_; (with_reducible refine (EXC.out _ _ _ _ _ _ _ _ _ w0 _ ?side1 ?side2 A14.out).mono ?_); (case side1 => exact yI); (case side2 => exact (kLI HB)); rintro e w16 ⟨v156, rfl, ho0, hi, hb, hk⟩; refine ⟨_, rfl, ?_⟩; have HO157 := am (Kd.N_lower (Kd.N_mono (ok' := fun k_ => (w.heap.size ≤ k_) ∧ k_ ≠ gb147 ∧ k_ ≠ gb154 ∧ k_ ≠ g) ho0 (fun k_ hk_ => ⟨(Nat.le_trans (keep_size (w := w) (g := g) (row := none) (kK HK)) hk_), (fB BK147 k_ hk_), (fB BK154 k_ hk_), (IsS83.fresh yI k_ hk_)⟩)) (keep_size (w := w) (g := g) (row := none) (kK HK))); replace BK147 := am (KeepBut.blk hk (g' := gb147) (o := .cells #[.int .i64 0, .string (⟨#[]⟩ : ByteArray), .string (⟨#[]⟩ : ByteArray), .string (⟨#[]⟩ : ByteArray), .slice none 0 0] 25 (0, 0)) (kM BK147) NB147_0.out (by simp)); replace BK154 := am (KeepBut.blk hk (g' := gb154) (o := .cells #[.int .i64 a1, .string t149, .string (⟨#[]⟩ : ByteArray), .string (⟨#[]⟩ : ByteArray), .slice none 0 0] 25 (0, 0)) (kM BK154) NB154_0.out (by simp)); replace HK := am (KeepBut.trans (kK HK) hk (.inl rfl)); replace HB := am hb; replace HI0 := am hi; (try clear ho0 hi hb hk)) | ((with_reducible refine gC 94 rfl ?_); refine gL (some 29) Try.func94 #[.pointer (some ⟨g, 0, none⟩), .string (⟨#[125]⟩ : ByteArray)] ?_; (with_reducible refine (parse_parser_mark.calls _ _ _ _ _ _ _ _ _ w0 _ ?side1 ?side2 A15.out).mono ?_); (case side1 => exact yI); (case side2 => exact (kLI HB)); rintro e w17 ⟨rfl, hi, hb, hk⟩; refine ⟨_, rfl, ?_⟩; replace BK147 := am (KeepBut.blk hk (kB BK147) NB147_0.out (by simp)); replace BK154 := am (KeepBut.blk hk (kB BK154) NB154_0.out (by simp)); replace HO157 := am (Kd.N_mono (Kd.N_keep (Kd.N_mono (ok := fun k_ => (((w.heap.size ≤ k_)) ∧ (k_ ≠ gb147 ∧ (k_ ≠ gb154 ∧ k_ ≠ g)))) (nB HO157) (fun k_ hk_ => (⟨hk_, hk_.2.2.2⟩ : _ ∧ k_ ≠ g))) hk (fun _ h => h.2)) (fun _ h => h.1)); replace HK := am (KeepBut.trans (kK HK) hk (.inl rfl)); replace HB := am hb; replace HI0 := am hi; (try clear hi hb hk)))
   go_meet
   case rel => exact ⟨_, (t155), (t161), (t162), (t163), H', ⟨yO⟩, ⟨nB HO157⟩, ⟨kB BK147⟩, ⟨kB BK154⟩, ⟨yI⟩, ⟨(kK HK)⟩, ⟨(kLI HB)⟩⟩
  ·rw [if_neg c13] at H
   have c13b0 := eF c13
   have c13b1 := nT c13
   (first | rw [c13b0] | (simp only [i64_w, i32_w]; rw [c13b0]) | skip)
   have H' := am H
   clear H
   go_wp2
   go_meet
   case rel => exact ⟨_, (([] : List (S25))), (wrap64 (t151 + 1)), (t152), (t153), H', ⟨yO⟩, ⟨yZ⟩, ⟨kM BK147⟩, ⟨kM BK154⟩, ⟨yI⟩, ⟨(kK HK)⟩, ⟨(kLI HB)⟩⟩
 case rest =>
  clear HC5
  try clear c1
  try clear p2
  try clear c6
  try clear p6
  try clear c9
  try clear c10
  try clear c11
  try clear c13
  try clear c13b0
  try clear c13b1
  try clear hcz11_0
  try clear hcz11_1
  try clear hcz11_2
  try clear hcz11_3
  try clear hcz11_4
  try clear hcz12_0
  try clear hcz12_1
  try clear hcz12_2
  try clear hcz12_3
  try clear hfz11_0
  try clear hfz11_1
  try clear hfz11_2
  try clear hfz11_3
  try clear hfz11_4
  try clear hfz12_1
  try clear hfz12_2
  try clear hfz12_3
  obtain ⟨kq, x9_4, x1001_4, x1002_4, x1003_4, HA, HJ4, HO_9, BK147, BK154, HI0, HK, HB⟩ := hcut
  cases kq with
  | zero => exact absurd HA.out (by simp [parse_parser_verb.j0])
  | succ kj4 =>
   have H := HA.out
   clear HA
   simp only [parse_parser_verb.j0] at H
   replace H := Option.bind_eq_some_iff.mp H
   obtain ⟨⟨t164, t165, t166, t167, t168, t169⟩, A180, H⟩ := H
   try dsimp only at H
   have A18 := am A180
   clear A180
   by_cases c19 : t164 = 5
   ·rw [if_pos c19] at H
    have c19b0 := eT c19
    have c19b1 := nF c19
    clear c19
    by_cases c20 : (t165.size : Int) = 1
    ·rw [if_pos c20] at H
     have c20b0 := eT c20
     have c20b1 := nF c20
     clear c20
     replace H := Option.bind_eq_some_iff.mp H
     obtain ⟨t171, A210, H⟩ := H
     try dsimp only at H
     have A21 := am A210
     clear A210
     by_cases c22 : t171 = true
     ·subst c22
      rw [if_pos rfl] at H
      simp only [Bool.not_true, Bool.not_false] at H
      simp only [Option.some.injEq, Prod.mk.injEq] at H
      obtain ⟨rfl, rfl, rfl, rfl, rfl, rfl, rfl, rfl, rfl⟩ := H
      go_wp2_with (first | ((with_reducible refine gC 67 rfl ?_); refine gL (some 31) Try.func67 #[.pointer (some ⟨g, 0, none⟩), .int .i64 0] ?_; (with_reducible refine (parse_parser_look.calls _ _ _ _ _ _ _ _ _ _ _ _ w0 _ ?side1 ?side2 A18.out).mono ?_); (case side1 => exact yI); (case side2 => exact (kLI HB)); rintro e w23 ⟨rfl, hi, hb, hk⟩; refine ⟨_, rfl, ?_⟩; replace HO_9 := am (Kd.N_mono (Kd.N_keep (Kd.N_mono (ok := fun k_ => (((w.heap.size ≤ k_)) ∧ (k_ ≠ gb147 ∧ (k_ ≠ gb154 ∧ k_ ≠ g)))) (nB HO_9) (fun k_ hk_ => (⟨hk_, hk_.2.2.2⟩ : _ ∧ k_ ≠ g))) hk (fun _ h => h.2)) (fun _ h => h.1)); replace BK147 := am (KeepBut.blk hk (kB BK147) NB147_0.out (by simp)); replace BK154 := am (KeepBut.blk hk (kB BK154) NB154_0.out (by simp)); replace HK := am (KeepBut.trans (kK HK) hk (.inl rfl)); replace HB := am hb; replace HI0 := am hi; (try clear hi hb hk)) | ((with_reducible refine gD 10 rfl ?_); refine bx 10 #[.int .i64 0, .string (⟨#[]⟩ : ByteArray), .int .i64 0] 71 ?_; intro gb170 hg w24 hbox hb; replace HO_9 := am (Kd.N_below (Kd.N_elderB (nB HO_9) gb170 (Nat.le_of_eq hg.symm)) hb); replace HB := am (below_step (kLI HB) hb); have BK170 := am hbox; have GW170 := am ((by rw [hg]; exact (keep_size (w := w) (g := g) (row := none) (kK HK)) : w.heap.size ≤ gb170)); have GE170 := am ((Nat.le_trans HW0.out (by rw [hg]; exact (keep_size (w := w) (g := g) (row := none) (kK HK)) : w.heap.size ≤ gb170) : w0.heap.size ≤ gb170)); replace HK := am (KeepBut.trans (kK HK) (KeepBut.of_below hb g none) (.inl rfl)); have NB147_170 := am (neL hg (kB BK147)); have NB170_147 := am (neR hg (kB BK147)); replace BK147 := am (bB (kB BK147) hb); have NB154_170 := am (neL hg (kB BK154)); have NB170_154 := am (neR hg (kB BK154)); replace BK154 := am (bB (kB BK154) hb); have NB0_170 := am ((by rw [hg]; exact Nat.ne_of_lt (IsS83.lt (show IsS83 w0 _ g s0_0 t167 t168 t169 from yI)) : g ≠ gb170)); have NB170_0 := am ((by rw [hg]; exact Nat.ne_of_gt (IsS83.lt (show IsS83 w0 _ g s0_0 t167 t168 t169 from yI)) : gb170 ≠ g)); replace HI0 := am (IsS83.below yI hb); clear hb hbox hg; have hnb25 := NB170_147.out; have hnc25 := NB147_170.out; have hnb26 := NB170_154.out; have hnc26 := NB154_170.out; have hnb27 := NB170_0.out; have hnc27 := NB0_170.out; obtain ⟨hcz28_0, hcz28_1, hcz28_2, hfz28_0, hfz28_1, hfz28_2⟩ := bk3 BK170.out) | (go_at_call 83; (with_reducible refine (strings_Contains.calls _ _ _ _ A21.out).mono ?_); rintro e w' ⟨rfl, ⟨nd, rfl⟩⟩; obtain ⟨ASz29_0, cSz29_0, HSz29_0, hcz29_0, hcz29_1, hcz29_2, hcz29_3, hfz29_1, hfz29_2, hfz29_3⟩ := IsS83.look HI0.out; have hnb30 := NB154_147.out; have hnc30 := NB147_154.out; have hnb31 := NB154_0.out; have hnc31 := NB0_154.out; obtain ⟨hcz32_0, hcz32_1, hcz32_2, hcz32_3, hcz32_4, hfz32_0, hfz32_1, hfz32_2, hfz32_3, hfz32_4⟩ := bk5 BK154.out; have hnb33 := NB147_0.out; have hnc33 := NB0_147.out; obtain ⟨hcz34_0, hcz34_1, hcz34_2, hcz34_3, hcz34_4, hfz34_0, hfz34_1, hfz34_2, hfz34_3, hfz34_4⟩ := bk5 BK147.out))
      refine bodyPost_ret (results_ct rfl _ _ gb147 25 #[.int .i64 a1, .string t149, .string t165, .string (⟨#[]⟩ : ByteArray), .slice none 0 0] (0, 0) _ rfl (kM BK147) Try.underlying25 rfl (by kernel_rfl)) rfl ?_
      exact ⟨_, _, yE, by first | exact Kd.R_nil _ _ _ _ _ | exact Kd.N_nil _ _ _ _ _ | exact Kd.V_nil _ _ _ _ _ | exact Kd.Q_nil _ _ _ _ _ | exact Kd.S_nil _ _ _ _ _, by (with_reducible repeat (first | apply Kd.N_alloc | apply Kd.N_drewN | apply Kd.N_drew)); exact Kd.N_mono (Kd.N_far (p := ⟨gb147, 4, none⟩) (Kd.N_far (p := ⟨gb147, 3, none⟩) (Kd.N_far (p := ⟨gb147, 2, none⟩) (Kd.N_far (p := ⟨gb147, 1, none⟩) (Kd.N_far (p := ⟨gb147, 0, none⟩) (Kd.N_far (p := ⟨g, 1, none⟩) (Kd.N_far (p := ⟨gb154, 2, none⟩) (Kd.N_far (p := ⟨g, 3, none⟩) (Kd.N_drewN (Kd.N_far (p := ⟨gb170, 2, none⟩) (Kd.N_far (p := ⟨gb170, 1, none⟩) (Kd.N_far (p := ⟨gb170, 0, none⟩) (Kd.N_mono (Kd.N_mono (Kd.N_mono (Kd.N_mono HO_9.out (fun k_ hk => (⟨hk, hk.2⟩ : _ ∧ k_ ≠ gb170))) (fun k_ hk => (⟨hk, hk.1.1.2.2.2⟩ : _ ∧ k_ ≠ g))) (fun k_ hk => (⟨hk, hk.1.1.1.2.2.1⟩ : _ ∧ k_ ≠ gb154))) (fun k_ hk => (⟨hk, hk.1.1.1.1.2.1⟩ : _ ∧ k_ ≠ gb147))) (fun _ hk => hk.1.1.1.2) (.int .i64 t164)) (fun _ hk => hk.1.1.1.2) (.string t165)) (fun _ hk => hk.1.1.1.2) (.int .i64 t166)) nd) (fun _ hk => hk.1.1.2) (.bool false)) (fun _ hk => hk.1.2) (.string t165)) (fun _ hk => hk.1.1.2) (.int .i64 (wrap64 (t167 + 1)))) (fun _ hk => hk.2) (.int .i64 a1)) (fun _ hk => hk.2) (.string t149)) (fun _ hk => hk.2) (.string t165)) (fun _ hk => hk.2) (.string (⟨#[]⟩ : ByteArray))) (fun _ hk => hk.2) (.slice none 0 0)) (fun _ hk => ⟨hk.1.1.1.1.1.1, (by simp [Value.ownBlock])⟩), yI, (kLI HB), (kK HK)⟩
     ·replace c22 := Bool.eq_false_iff.mpr c22
      subst c22
      rw [if_neg (show ¬ (false = true) by decide)] at H
      simp only [Bool.not_true, Bool.not_false] at H
      simp only [Option.some.injEq, Prod.mk.injEq] at H
      obtain ⟨rfl, rfl, rfl, rfl, rfl, rfl, rfl, rfl, rfl⟩ := H
      go_wp2_with (first | ((with_reducible refine gC 67 rfl ?_); refine gL (some 31) Try.func67 #[.pointer (some ⟨g, 0, none⟩), .int .i64 0] ?_; (with_reducible refine (parse_parser_look.calls _ _ _ _ _ _ _ _ _ _ _ _ w0 _ ?side1 ?side2 A18.out).mono ?_); (case side1 => exact yI); (case side2 => exact (kLI HB)); rintro e w35 ⟨rfl, hi, hb, hk⟩; refine ⟨_, rfl, ?_⟩; replace HO_9 := am (Kd.N_mono (Kd.N_keep (Kd.N_mono (ok := fun k_ => (((w.heap.size ≤ k_)) ∧ (k_ ≠ gb147 ∧ (k_ ≠ gb154 ∧ k_ ≠ g)))) (nB HO_9) (fun k_ hk_ => (⟨hk_, hk_.2.2.2⟩ : _ ∧ k_ ≠ g))) hk (fun _ h => h.2)) (fun _ h => h.1)); replace BK147 := am (KeepBut.blk hk (kB BK147) NB147_0.out (by simp)); replace BK154 := am (KeepBut.blk hk (kB BK154) NB154_0.out (by simp)); replace HK := am (KeepBut.trans (kK HK) hk (.inl rfl)); replace HB := am hb; replace HI0 := am hi; (try clear hi hb hk)) | ((with_reducible refine gD 10 rfl ?_); refine bx 10 #[.int .i64 0, .string (⟨#[]⟩ : ByteArray), .int .i64 0] 71 ?_; intro gb170 hg w36 hbox hb; replace HO_9 := am (Kd.N_below (Kd.N_elderB (nB HO_9) gb170 (Nat.le_of_eq hg.symm)) hb); replace HB := am (below_step (kLI HB) hb); have BK170 := am hbox; have GW170 := am ((by rw [hg]; exact (keep_size (w := w) (g := g) (row := none) (kK HK)) : w.heap.size ≤ gb170)); have GE170 := am ((Nat.le_trans HW0.out (by rw [hg]; exact (keep_size (w := w) (g := g) (row := none) (kK HK)) : w.heap.size ≤ gb170) : w0.heap.size ≤ gb170)); replace HK := am (KeepBut.trans (kK HK) (KeepBut.of_below hb g none) (.inl rfl)); have NB147_170 := am (neL hg (kB BK147)); have NB170_147 := am (neR hg (kB BK147)); replace BK147 := am (bB (kB BK147) hb); have NB154_170 := am (neL hg (kB BK154)); have NB170_154 := am (neR hg (kB BK154)); replace BK154 := am (bB (kB BK154) hb); have NB0_170 := am ((by rw [hg]; exact Nat.ne_of_lt (IsS83.lt (show IsS83 w0 _ g s0_0 t167 t168 t169 from yI)) : g ≠ gb170)); have NB170_0 := am ((by rw [hg]; exact Nat.ne_of_gt (IsS83.lt (show IsS83 w0 _ g s0_0 t167 t168 t169 from yI)) : gb170 ≠ g)); replace HI0 := am (IsS83.below yI hb); clear hb hbox hg; have hnb37 := NB170_147.out; have hnc37 := NB147_170.out; have hnb38 := NB170_154.out; have hnc38 := NB154_170.out; have hnb39 := NB170_0.out; have hnc39 := NB0_170.out; obtain ⟨hcz40_0, hcz40_1, hcz40_2, hfz40_0, hfz40_1, hfz40_2⟩ := bk3 BK170.out) | (go_at_call 83; (with_reducible refine (strings_Contains.calls _ _ _ _ A21.out).mono ?_); rintro e w' ⟨rfl, ⟨nd, rfl⟩⟩; obtain ⟨ASz41_0, cSz41_0, HSz41_0, hcz41_0, hcz41_1, hcz41_2, hcz41_3, hfz41_1, hfz41_2, hfz41_3⟩ := IsS83.look HI0.out; have hnb42 := NB154_147.out; have hnc42 := NB147_154.out; have hnb43 := NB154_0.out; have hnc43 := NB0_154.out; obtain ⟨hcz44_0, hcz44_1, hcz44_2, hcz44_3, hcz44_4, hfz44_0, hfz44_1, hfz44_2, hfz44_3, hfz44_4⟩ := bk5 BK154.out; have hnb45 := NB147_0.out; have hnc45 := NB0_147.out; obtain ⟨hcz46_0, hcz46_1, hcz46_2, hcz46_3, hcz46_4, hfz46_0, hfz46_1, hfz46_2, hfz46_3, hfz46_4⟩ := bk5 BK147.out))
      refine bodyPost_ret (results_ct rfl _ _ gb147 25 #[.int .i64 a1, .string t149, .string t165, .string (⟨#[]⟩ : ByteArray), .slice none 0 0] (0, 0) _ rfl (kM BK147) Try.underlying25 rfl (by kernel_rfl)) rfl ?_
      exact ⟨_, _, yE, by first | exact Kd.R_nil _ _ _ _ _ | exact Kd.N_nil _ _ _ _ _ | exact Kd.V_nil _ _ _ _ _ | exact Kd.Q_nil _ _ _ _ _ | exact Kd.S_nil _ _ _ _ _, by (with_reducible repeat (first | apply Kd.N_alloc | apply Kd.N_drewN | apply Kd.N_drew)); exact Kd.N_mono (Kd.N_far (p := ⟨gb147, 4, none⟩) (Kd.N_far (p := ⟨gb147, 3, none⟩) (Kd.N_far (p := ⟨gb147, 2, none⟩) (Kd.N_far (p := ⟨gb147, 1, none⟩) (Kd.N_far (p := ⟨gb147, 0, none⟩) (Kd.N_far (p := ⟨g, 1, none⟩) (Kd.N_far (p := ⟨g, 1, none⟩) (Kd.N_far (p := ⟨gb154, 2, none⟩) (Kd.N_far (p := ⟨g, 3, none⟩) (Kd.N_drewN (Kd.N_far (p := ⟨gb170, 2, none⟩) (Kd.N_far (p := ⟨gb170, 1, none⟩) (Kd.N_far (p := ⟨gb170, 0, none⟩) (Kd.N_mono (Kd.N_mono (Kd.N_mono (Kd.N_mono HO_9.out (fun k_ hk => (⟨hk, hk.2⟩ : _ ∧ k_ ≠ gb170))) (fun k_ hk => (⟨hk, hk.1.1.2.2.2⟩ : _ ∧ k_ ≠ g))) (fun k_ hk => (⟨hk, hk.1.1.1.2.2.1⟩ : _ ∧ k_ ≠ gb154))) (fun k_ hk => (⟨hk, hk.1.1.1.1.2.1⟩ : _ ∧ k_ ≠ gb147))) (fun _ hk => hk.1.1.1.2) (.int .i64 t164)) (fun _ hk => hk.1.1.1.2) (.string t165)) (fun _ hk => hk.1.1.1.2) (.int .i64 t166)) nd) (fun _ hk => hk.1.1.2) (.bool true)) (fun _ hk => hk.1.2) (.string t165)) (fun _ hk => hk.1.1.2) (.int .i64 (wrap64 (t167 + 1)))) (fun _ hk => hk.1.1.2) (.int .i64 (wrap64 ((wrap64 (t167 + 1)) - 1)))) (fun _ hk => hk.2) (.int .i64 a1)) (fun _ hk => hk.2) (.string t149)) (fun _ hk => hk.2) (.string t165)) (fun _ hk => hk.2) (.string (⟨#[]⟩ : ByteArray))) (fun _ hk => hk.2) (.slice none 0 0)) (fun _ hk => ⟨hk.1.1.1.1.1.1, (by simp [Value.ownBlock])⟩), yI, (kLI HB), (kK HK)⟩
    ·rw [if_neg c20] at H
     have c20b0 := eF c20
     have c20b1 := nT c20
     simp only [Option.some.injEq, Prod.mk.injEq] at H
     obtain ⟨rfl, rfl, rfl, rfl, rfl, rfl, rfl, rfl, rfl⟩ := H
     go_wp2_with (first | ((with_reducible refine gC 67 rfl ?_); refine gL (some 31) Try.func67 #[.pointer (some ⟨g, 0, none⟩), .int .i64 0] ?_; (with_reducible refine (parse_parser_look.calls _ _ _ _ _ _ _ _ _ _ _ _ w0 _ ?side1 ?side2 A18.out).mono ?_); (case side1 => exact yI); (case side2 => exact (kLI HB)); rintro e w47 ⟨rfl, hi, hb, hk⟩; refine ⟨_, rfl, ?_⟩; replace HO_9 := am (Kd.N_mono (Kd.N_keep (Kd.N_mono (ok := fun k_ => (((w.heap.size ≤ k_)) ∧ (k_ ≠ gb147 ∧ (k_ ≠ gb154 ∧ k_ ≠ g)))) (nB HO_9) (fun k_ hk_ => (⟨hk_, hk_.2.2.2⟩ : _ ∧ k_ ≠ g))) hk (fun _ h => h.2)) (fun _ h => h.1)); replace BK147 := am (KeepBut.blk hk (kB BK147) NB147_0.out (by simp)); replace BK154 := am (KeepBut.blk hk (kB BK154) NB154_0.out (by simp)); replace HK := am (KeepBut.trans (kK HK) hk (.inl rfl)); replace HB := am hb; replace HI0 := am hi; (try clear hi hb hk)) | ((with_reducible refine gD 10 rfl ?_); refine bx 10 #[.int .i64 0, .string (⟨#[]⟩ : ByteArray), .int .i64 0] 71 ?_; intro gb170 hg w48 hbox hb; replace HO_9 := am (Kd.N_below (Kd.N_elderB (nB HO_9) gb170 (Nat.le_of_eq hg.symm)) hb); replace HB := am (below_step (kLI HB) hb); have BK170 := am hbox; have GW170 := am ((by rw [hg]; exact (keep_size (w := w) (g := g) (row := none) (kK HK)) : w.heap.size ≤ gb170)); have GE170 := am ((Nat.le_trans HW0.out (by rw [hg]; exact (keep_size (w := w) (g := g) (row := none) (kK HK)) : w.heap.size ≤ gb170) : w0.heap.size ≤ gb170)); replace HK := am (KeepBut.trans (kK HK) (KeepBut.of_below hb g none) (.inl rfl)); have NB147_170 := am (neL hg (kB BK147)); have NB170_147 := am (neR hg (kB BK147)); replace BK147 := am (bB (kB BK147) hb); have NB154_170 := am (neL hg (kB BK154)); have NB170_154 := am (neR hg (kB BK154)); replace BK154 := am (bB (kB BK154) hb); have NB0_170 := am ((by rw [hg]; exact Nat.ne_of_lt (IsS83.lt (show IsS83 w0 _ g s0_0 t167 t168 t169 from yI)) : g ≠ gb170)); have NB170_0 := am ((by rw [hg]; exact Nat.ne_of_gt (IsS83.lt (show IsS83 w0 _ g s0_0 t167 t168 t169 from yI)) : gb170 ≠ g)); replace HI0 := am (IsS83.below yI hb); clear hb hbox hg; have hnb49 := NB170_147.out; have hnc49 := NB147_170.out; have hnb50 := NB170_154.out; have hnc50 := NB154_170.out; have hnb51 := NB170_0.out; have hnc51 := NB0_170.out; obtain ⟨hcz52_0, hcz52_1, hcz52_2, hfz52_0, hfz52_1, hfz52_2⟩ := bk3 BK170.out; obtain ⟨ASz53_0, cSz53_0, HSz53_0, hcz53_0, hcz53_1, hcz53_2, hcz53_3, hfz53_1, hfz53_2, hfz53_3⟩ := IsS83.look HI0.out; have hnb54 := NB154_147.out; have hnc54 := NB147_154.out; have hnb55 := NB154_0.out; have hnc55 := NB0_154.out; obtain ⟨hcz56_0, hcz56_1, hcz56_2, hcz56_3, hcz56_4, hfz56_0, hfz56_1, hfz56_2, hfz56_3, hfz56_4⟩ := bk5 BK154.out; have hnb57 := NB147_0.out; have hnc57 := NB0_147.out; obtain ⟨hcz58_0, hcz58_1, hcz58_2, hcz58_3, hcz58_4, hfz58_0, hfz58_1, hfz58_2, hfz58_3, hfz58_4⟩ := bk5 BK147.out))
     refine bodyPost_ret (results_ct rfl _ _ gb147 25 #[.int .i64 a1, .string t149, .string t165, .string (⟨#[]⟩ : ByteArray), .slice none 0 0] (0, 0) _ rfl (kM BK147) Try.underlying25 rfl (by kernel_rfl)) rfl ?_
     exact ⟨_, _, yE, by first | exact Kd.R_nil _ _ _ _ _ | exact Kd.N_nil _ _ _ _ _ | exact Kd.V_nil _ _ _ _ _ | exact Kd.Q_nil _ _ _ _ _ | exact Kd.S_nil _ _ _ _ _, by (with_reducible repeat (first | apply Kd.N_alloc | apply Kd.N_drewN | apply Kd.N_drew)); exact Kd.N_mono (Kd.N_far (p := ⟨gb147, 4, none⟩) (Kd.N_far (p := ⟨gb147, 3, none⟩) (Kd.N_far (p := ⟨gb147, 2, none⟩) (Kd.N_far (p := ⟨gb147, 1, none⟩) (Kd.N_far (p := ⟨gb147, 0, none⟩) (Kd.N_far (p := ⟨g, 1, none⟩) (Kd.N_far (p := ⟨g, 1, none⟩) (Kd.N_far (p := ⟨gb154, 2, none⟩) (Kd.N_far (p := ⟨g, 3, none⟩) (Kd.N_far (p := ⟨gb170, 2, none⟩) (Kd.N_far (p := ⟨gb170, 1, none⟩) (Kd.N_far (p := ⟨gb170, 0, none⟩) (Kd.N_mono (Kd.N_mono (Kd.N_mono (Kd.N_mono HO_9.out (fun k_ hk => (⟨hk, hk.2⟩ : _ ∧ k_ ≠ gb170))) (fun k_ hk => (⟨hk, hk.1.1.2.2.2⟩ : _ ∧ k_ ≠ g))) (fun k_ hk => (⟨hk, hk.1.1.1.2.2.1⟩ : _ ∧ k_ ≠ gb154))) (fun k_ hk => (⟨hk, hk.1.1.1.1.2.1⟩ : _ ∧ k_ ≠ gb147))) (fun _ hk => hk.1.1.1.2) (.int .i64 t164)) (fun _ hk => hk.1.1.1.2) (.string t165)) (fun _ hk => hk.1.1.1.2) (.int .i64 t166)) (fun _ hk => hk.1.1.2) (.bool true)) (fun _ hk => hk.1.2) (.string t165)) (fun _ hk => hk.1.1.2) (.int .i64 (wrap64 (t167 + 1)))) (fun _ hk => hk.1.1.2) (.int .i64 (wrap64 ((wrap64 (t167 + 1)) - 1)))) (fun _ hk => hk.2) (.int .i64 a1)) (fun _ hk => hk.2) (.string t149)) (fun _ hk => hk.2) (.string t165)) (fun _ hk => hk.2) (.string (⟨#[]⟩ : ByteArray))) (fun _ hk => hk.2) (.slice none 0 0)) (fun _ hk => ⟨hk.1.1.1.1.1.1, (by simp [Value.ownBlock])⟩), yI, (kLI HB), (kK HK)⟩
   ·rw [if_neg c19] at H
    have c19b0 := eF c19
    have c19b1 := nT c19
    simp only [Option.some.injEq, Prod.mk.injEq] at H
    obtain ⟨rfl, rfl, rfl, rfl, rfl, rfl, rfl, rfl, rfl⟩ := H
    go_wp2_with (first | ((with_reducible refine gC 67 rfl ?_); refine gL (some 31) Try.func67 #[.pointer (some ⟨g, 0, none⟩), .int .i64 0] ?_; (with_reducible refine (parse_parser_look.calls _ _ _ _ _ _ _ _ _ _ _ _ w0 _ ?side1 ?side2 A18.out).mono ?_); (case side1 => exact yI); (case side2 => exact (kLI HB)); rintro e w59 ⟨rfl, hi, hb, hk⟩; refine ⟨_, rfl, ?_⟩; replace HO_9 := am (Kd.N_mono (Kd.N_keep (Kd.N_mono (ok := fun k_ => (((w.heap.size ≤ k_)) ∧ (k_ ≠ gb147 ∧ (k_ ≠ gb154 ∧ k_ ≠ g)))) (nB HO_9) (fun k_ hk_ => (⟨hk_, hk_.2.2.2⟩ : _ ∧ k_ ≠ g))) hk (fun _ h => h.2)) (fun _ h => h.1)); replace BK147 := am (KeepBut.blk hk (kB BK147) NB147_0.out (by simp)); replace BK154 := am (KeepBut.blk hk (kB BK154) NB154_0.out (by simp)); replace HK := am (KeepBut.trans (kK HK) hk (.inl rfl)); replace HB := am hb; replace HI0 := am hi; (try clear hi hb hk)) | ((with_reducible refine gD 10 rfl ?_); refine bx 10 #[.int .i64 0, .string (⟨#[]⟩ : ByteArray), .int .i64 0] 71 ?_; intro gb170 hg w60 hbox hb; replace HO_9 := am (Kd.N_below (Kd.N_elderB (nB HO_9) gb170 (Nat.le_of_eq hg.symm)) hb); replace HB := am (below_step (kLI HB) hb); have BK170 := am hbox; have GW170 := am ((by rw [hg]; exact (keep_size (w := w) (g := g) (row := none) (kK HK)) : w.heap.size ≤ gb170)); have GE170 := am ((Nat.le_trans HW0.out (by rw [hg]; exact (keep_size (w := w) (g := g) (row := none) (kK HK)) : w.heap.size ≤ gb170) : w0.heap.size ≤ gb170)); replace HK := am (KeepBut.trans (kK HK) (KeepBut.of_below hb g none) (.inl rfl)); have NB147_170 := am (neL hg (kB BK147)); have NB170_147 := am (neR hg (kB BK147)); replace BK147 := am (bB (kB BK147) hb); have NB154_170 := am (neL hg (kB BK154)); have NB170_154 := am (neR hg (kB BK154)); replace BK154 := am (bB (kB BK154) hb); have NB0_170 := am ((by rw [hg]; exact Nat.ne_of_lt (IsS83.lt (show IsS83 w0 _ g s0_0 t167 t168 t169 from yI)) : g ≠ gb170)); have NB170_0 := am ((by rw [hg]; exact Nat.ne_of_gt (IsS83.lt (show IsS83 w0 _ g s0_0 t167 t168 t169 from yI)) : gb170 ≠ g)); replace HI0 := am (IsS83.below yI hb); clear hb hbox hg; have hnb61 := NB170_147.out; have hnc61 := NB147_170.out; have hnb62 := NB170_154.out; have hnc62 := NB154_170.out; have hnb63 := NB170_0.out; have hnc63 := NB0_170.out; obtain ⟨hcz64_0, hcz64_1, hcz64_2, hfz64_0, hfz64_1, hfz64_2⟩ := bk3 BK170.out; have hnb65 := NB154_147.out; have hnc65 := NB147_154.out; have hnb66 := NB154_0.out; have hnc66 := NB0_154.out; obtain ⟨hcz67_0, hcz67_1, hcz67_2, hcz67_3, hcz67_4, hfz67_0, hfz67_1, hfz67_2, hfz67_3, hfz67_4⟩ := bk5 BK154.out; have hnb68 := NB147_0.out; have hnc68 := NB0_147.out; obtain ⟨hcz69_0, hcz69_1, hcz69_2, hcz69_3, hcz69_4, hfz69_0, hfz69_1, hfz69_2, hfz69_3, hfz69_4⟩ := bk5 BK147.out))
    refine bodyPost_ret (results_ct rfl _ _ gb147 25 #[.int .i64 a1, .string t149, .string (⟨#[]⟩ : ByteArray), .string (⟨#[]⟩ : ByteArray), .slice none 0 0] (0, 0) _ rfl (kM BK147) Try.underlying25 rfl (by kernel_rfl)) rfl ?_
    exact ⟨_, _, yE, by first | exact Kd.R_nil _ _ _ _ _ | exact Kd.N_nil _ _ _ _ _ | exact Kd.V_nil _ _ _ _ _ | exact Kd.Q_nil _ _ _ _ _ | exact Kd.S_nil _ _ _ _ _, by (with_reducible repeat (first | apply Kd.N_alloc | apply Kd.N_drewN | apply Kd.N_drew)); exact Kd.N_mono (Kd.N_far (p := ⟨gb147, 4, none⟩) (Kd.N_far (p := ⟨gb147, 3, none⟩) (Kd.N_far (p := ⟨gb147, 2, none⟩) (Kd.N_far (p := ⟨gb147, 1, none⟩) (Kd.N_far (p := ⟨gb147, 0, none⟩) (Kd.N_far (p := ⟨gb170, 2, none⟩) (Kd.N_far (p := ⟨gb170, 1, none⟩) (Kd.N_far (p := ⟨gb170, 0, none⟩) (Kd.N_mono (Kd.N_mono HO_9.out (fun k_ hk => (⟨hk, hk.2⟩ : _ ∧ k_ ≠ gb170))) (fun k_ hk => (⟨hk, hk.1.1.2.1⟩ : _ ∧ k_ ≠ gb147))) (fun _ hk => hk.1.2) (.int .i64 t164)) (fun _ hk => hk.1.2) (.string t165)) (fun _ hk => hk.1.2) (.int .i64 t166)) (fun _ hk => hk.2) (.int .i64 a1)) (fun _ hk => hk.2) (.string t149)) (fun _ hk => hk.2) (.string (⟨#[]⟩ : ByteArray))) (fun _ hk => hk.2) (.string (⟨#[]⟩ : ByteArray))) (fun _ hk => hk.2) (.slice none 0 0)) (fun _ hk => ⟨hk.1.1.1.1, (by simp [Value.ownBlock])⟩), yI, (kLI HB), (kK HK)⟩
def num_May.f (a0 : ByteArray) : Option (Bool) := (strings_TrimPrefix.f a0 (⟨#[45]⟩ : ByteArray)).bind fun t172 => (if (t172.size : Int) < 1 then (some false) else (if (t172.size : Int) > 100 then (some false) else (if 0 < (t172.size : Int) then (if (bt t172 0) = 48 then (if a0.toList = ([48] : List UInt8) then ((ContainsFunc_May.f t172).bind fun t173 => (some (!t173))) else (some false)) else ((ContainsFunc_May.f t172).bind fun t174 => (some (!t174)))) else (none))))
set_option maxHeartbeats 8000000 in
set_option maxRecDepth 100000 in
theorem num_May.calls (a0 : ByteArray) (r : Bool) (w : World) (h : num_May.f a0 = some r) :
  Calls Try.prog 57 #[.string a0] w fun e w' => e = .returned (.bool r) ∧ Below w.heap.size w w' := by
 have HB := am (Below.refl w.heap.size w)
 have H : ((strings_TrimPrefix.f a0 (⟨#[45]⟩ : ByteArray)).bind fun t172 => (if (t172.size : Int) < 1 then (some false) else (if (t172.size : Int) > 100 then (some false) else (if 0 < (t172.size : Int) then (if (bt t172 0) = 48 then (if a0.toList = ([48] : List UInt8) then ((ContainsFunc_May.f t172).bind fun t173 => (some (!t173))) else (some false)) else ((ContainsFunc_May.f t172).bind fun t174 => (some (!t174)))) else (none))))) = some r := h
 clear h
 replace H := Option.bind_eq_some_iff.mp H
 obtain ⟨t172, A20, H⟩ := H
 try dsimp only at H
 have A2 := am A20
 clear A20
 by_cases c3 : (t172.size : Int) < 1
 ·rw [if_pos c3] at H
  have c3b0 : decide ((t172.size : Int) < 1) = true := decide_eq_true c3
  have c3b1 : decide (t172.size < 1) = true := decide_eq_true (by omega)
  clear c3
  obtain rfl := Option.some.inj H
  go_enter Try.func57, Try.ntmps57
  go_wp2_with ((with_reducible refine gC 80 rfl ?_); refine gL (some 5) Try.func80 #[.string a0, .string (⟨#[45]⟩ : ByteArray)] ?_; (with_reducible refine (strings_TrimPrefix.calls _ _ _ _ A2.out).mono ?_); rintro e w' ⟨rfl, ⟨nd, rfl⟩⟩; refine ⟨_, rfl, ?_⟩)
  go_ret
  exact ⟨yE, (kL HB)⟩
 ·rw [if_neg c3] at H
  have c3b0 : decide ((t172.size : Int) < 1) = false := decide_eq_false c3
  have c3b1 : decide (t172.size < 1) = false := decide_eq_false (by omega)
  clear c3
  by_cases c4 : (t172.size : Int) > 100
  ·rw [if_pos c4] at H
   have c4b0 : decide (100 < (t172.size : Int)) = true := decide_eq_true c4
   have c4b1 : decide (100 < t172.size) = true := decide_eq_true (by omega)
   clear c4
   obtain rfl := Option.some.inj H
   go_enter Try.func57, Try.ntmps57
   go_wp2_with ((with_reducible refine gC 80 rfl ?_); refine gL (some 5) Try.func80 #[.string a0, .string (⟨#[45]⟩ : ByteArray)] ?_; (with_reducible refine (strings_TrimPrefix.calls _ _ _ _ A2.out).mono ?_); rintro e w' ⟨rfl, ⟨nd, rfl⟩⟩; refine ⟨_, rfl, ?_⟩)
   go_ret
   exact ⟨yE, (kL HB)⟩
  ·rw [if_neg c4] at H
   have c4b0 : decide (100 < (t172.size : Int)) = false := decide_eq_false c4
   have c4b1 : decide (100 < t172.size) = false := decide_eq_false (by omega)
   clear c4
   by_cases c5 : 0 < (t172.size : Int)
   ·rw [if_pos c5] at H
    have c5b0 : decide (0 < (t172.size : Int)) = true := decide_eq_true c5
    have c5b1 : decide (0 < t172.size) = true := decide_eq_true (by omega)
    clear c5
    by_cases c7 : (bt t172 0) = 48
    ·rw [if_pos c7] at H
     have c7b0 := eT c7
     have c7b1 := nF c7
     clear c7
     by_cases c8 : a0.toList = ([48] : List UInt8)
     ·rw [if_pos c8] at H
      have c8b0 := eT c8
      have c8b1 := nF c8
      clear c8
      replace H := Option.bind_eq_some_iff.mp H
      obtain ⟨t173, A90, H⟩ := H
      try dsimp only at H
      have A9 := am A90
      clear A90
      obtain rfl := Option.some.inj H
      go_enter Try.func57, Try.ntmps57
      go_wp2_with (first | ((with_reducible refine gC 80 rfl ?_); refine gL (some 5) Try.func80 #[.string a0, .string (⟨#[45]⟩ : ByteArray)] ?_; (with_reducible refine (strings_TrimPrefix.calls _ _ _ _ A2.out).mono ?_); rintro e w' ⟨rfl, ⟨nd, rfl⟩⟩; refine ⟨_, rfl, ?_⟩; have p6 : 0 ≤ (0 : Int) := (by omega); have q6 : 0 < t172.size := (by have : (0 : Int) < (t172.size : Int) := of_decide_eq_true yY; omega); have hx6 : ∀ h : 0 < t172.size, ((t172[0]'h).toNat : Int) = bt t172 0 := bt_at t172 0; clear p6; have qi6 : (0 < (t172.size : Int)) = True := eq_true (of_decide_eq_true yY); replace q6 := eq_true q6) | ((with_reducible refine gC 81 rfl ?_); refine gL (some 24) Try.func81 #[.string t172, .func (.func 82) #[] #[]] ?_; (with_reducible refine (ContainsFunc_May.calls _ _ _ A9.out).mono ?_); rintro e w10 ⟨rfl, hb⟩; refine ⟨_, rfl, ?_⟩; replace HB := am (below_step (kL HB) hb)))
      go_ret
      exact ⟨yE, (kL HB)⟩
     ·rw [if_neg c8] at H
      have c8b0 := eF c8
      have c8b1 := nT c8
      obtain rfl := Option.some.inj H
      go_enter Try.func57, Try.ntmps57
      go_wp2_with ((with_reducible refine gC 80 rfl ?_); refine gL (some 5) Try.func80 #[.string a0, .string (⟨#[45]⟩ : ByteArray)] ?_; (with_reducible refine (strings_TrimPrefix.calls _ _ _ _ A2.out).mono ?_); rintro e w' ⟨rfl, ⟨nd, rfl⟩⟩; refine ⟨_, rfl, ?_⟩; have p6 : 0 ≤ (0 : Int) := (by omega); have q6 : 0 < t172.size := (by have : (0 : Int) < (t172.size : Int) := of_decide_eq_true yY; omega); have hx6 : ∀ h : 0 < t172.size, ((t172[0]'h).toNat : Int) = bt t172 0 := bt_at t172 0; clear p6; have qi6 : (0 < (t172.size : Int)) = True := eq_true (of_decide_eq_true yY); replace q6 := eq_true q6)
      go_ret
      exact ⟨yE, (kL HB)⟩
    ·rw [if_neg c7] at H
     have c7b0 := eF c7
     have c7b1 := nT c7
     replace H := Option.bind_eq_some_iff.mp H
     obtain ⟨t174, A110, H⟩ := H
     try dsimp only at H
     have A11 := am A110
     clear A110
     obtain rfl := Option.some.inj H
     go_enter Try.func57, Try.ntmps57
     go_wp2_with (first | ((with_reducible refine gC 80 rfl ?_); refine gL (some 5) Try.func80 #[.string a0, .string (⟨#[45]⟩ : ByteArray)] ?_; (with_reducible refine (strings_TrimPrefix.calls _ _ _ _ A2.out).mono ?_); rintro e w' ⟨rfl, ⟨nd, rfl⟩⟩; refine ⟨_, rfl, ?_⟩; have p6 : 0 ≤ (0 : Int) := (by omega); have q6 : 0 < t172.size := (by have : (0 : Int) < (t172.size : Int) := of_decide_eq_true yY; omega); have hx6 : ∀ h : 0 < t172.size, ((t172[0]'h).toNat : Int) = bt t172 0 := bt_at t172 0; clear p6; have qi6 : (0 < (t172.size : Int)) = True := eq_true (of_decide_eq_true yY); replace q6 := eq_true q6) | ((with_reducible refine gC 81 rfl ?_); refine gL (some 24) Try.func81 #[.string t172, .func (.func 82) #[] #[]] ?_; (with_reducible refine (ContainsFunc_May.calls _ _ _ A11.out).mono ?_); rintro e w12 ⟨rfl, hb⟩; refine ⟨_, rfl, ?_⟩; replace HB := am (below_step (kL HB) hb)))
     go_ret
     exact ⟨yE, (kL HB)⟩
   ·rw [if_neg c5] at H
    exact absurd H (by simp)
def lex_Number.j0 : Nat → ByteArray → ByteArray → Option (ByteArray × Bool)
 | 0, _, _ => none
 | k + 1, x4, x5 => (run_figure.f x4).bind fun t176 => (if t176 = (x4.size : Int) then ((num_May.f x5).bind fun t177 => (if t177 = true then (some (x5, true)) else (some ((⟨#[]⟩ : ByteArray), false)))) else (some ((⟨#[]⟩ : ByteArray), false)))
def lex_Number.f (k : Nat) (a0 : ByteArray) : Option (ByteArray × Bool) := (strings_TrimPrefix.f a0 (⟨#[95]⟩ : ByteArray)).bind fun t175 => (if t175.toList = a0.toList then (lex_Number.j0 k t175 t175) else (if 1 + t175.size ≤ 9223372036854775807 then (lex_Number.j0 k t175 ((⟨#[45]⟩ : ByteArray) ++ t175)) else (none)))
set_option maxHeartbeats 8000000 in
set_option maxRecDepth 100000 in
theorem lex_Number.calls (k : Nat) (a0 : ByteArray) (r1 : ByteArray) (r2 : Bool) (w : World) (h : lex_Number.f k a0 = some (r1, r2)) :
  Calls Try.prog 91 #[.string a0] w fun e w' => e = .returned (.tuple #[.string r1, .bool r2]) ∧ Below w.heap.size w w' := by
 have HB := am (Below.refl w.heap.size w)
 have H : ((strings_TrimPrefix.f a0 (⟨#[95]⟩ : ByteArray)).bind fun t175 => (if t175.toList = a0.toList then (lex_Number.j0 k t175 t175) else (if 1 + t175.size ≤ 9223372036854775807 then (lex_Number.j0 k t175 ((⟨#[45]⟩ : ByteArray) ++ t175)) else (none)))) = some (r1, r2) := h
 clear h
 replace H := Option.bind_eq_some_iff.mp H
 obtain ⟨t175, A20, H⟩ := H
 try dsimp only at H
 have A2 := am A20
 clear A20
 have HC3 := am H
 clear H
 go_enter Try.func91, Try.ntmps91
 go_upto_if 11 with (first | ((with_reducible refine gC 80 rfl ?_); refine gL (some 7) Try.func80 #[.string a0, .string (⟨#[95]⟩ : ByteArray)] ?_; (with_reducible refine (strings_TrimPrefix.calls _ _ _ _ A2.out).mono ?_); rintro e w' ⟨rfl, ⟨nd, rfl⟩⟩; refine ⟨_, rfl, ?_⟩))
 (try simp only [Act.put, zT, z0, zS])
 go_cut [5] (fun v5 wc => ∃ (kq : Nat) (x5_2 : ByteArray), v5 = .string x5_2 ∧ Aside0 (lex_Number.j0 kq t175 x5_2 = some (r1, r2)) ∧ Aside0 (kq ≤ k) ∧ Aside0 (Below w.heap.size w wc))
 case first =>
  have H := HC3.out
  clear HC3
  by_cases c4 : t175.toList = a0.toList
  ·rw [if_pos c4] at H
   have c4b0 := eT c4
   have c4b1 := nF c4
   clear c4
   (first | rw [c4b0] | (simp only [i64_w, i32_w]; rw [c4b0]) | skip)
   have H' := am H
   clear H
   go_wp2
   go_meet
   case rel => exact ⟨_, (t175), yS, H', ⟨yO⟩, ⟨(kL HB)⟩⟩
  ·rw [if_neg c4] at H
   have c4b0 := eF c4
   have c4b1 := nT c4
   (first | rw [c4b0] | (simp only [i64_w, i32_w]; rw [c4b0]) | skip)
   by_cases c5 : 1 + t175.size ≤ 9223372036854775807
   ·rw [if_pos c5] at H
    have c5b0 := eq_true c5
    have c5b1 : decide (1 + t175.size ≤ 9223372036854775807) = true := decide_eq_true c5
    try have c5b2 : (9223372036854775807 < 1 + t175.size) = False := eq_false (Nat.not_lt.2 c5)
    have H' := am H
    clear H
    go_wp2
    go_meet
    case rel => exact ⟨_, ((⟨#[45]⟩ : ByteArray) ++ t175), yS, H', ⟨yO⟩, ⟨(kL HB)⟩⟩
   ·rw [if_neg c5] at H
    exact absurd H (by simp)
 case rest =>
  clear HC3
  try clear p2
  try clear c4
  try clear c4b0
  try clear c4b1
  try clear c5
  try clear c5b0
  try clear c5b1
  try clear c5b2
  obtain ⟨kq, x5_2, rfl, HA, HJ2, HB⟩ := hcut
  cases kq with
  | zero => exact absurd HA.out (by simp [lex_Number.j0])
  | succ kj2 =>
   have H := HA.out
   clear HA
   simp only [lex_Number.j0] at H
   replace H := Option.bind_eq_some_iff.mp H
   obtain ⟨t176, A60, H⟩ := H
   try dsimp only at H
   have A6 := am A60
   clear A60
   by_cases c7 : t176 = (t175.size : Int)
   ·rw [if_pos c7] at H
    have c7b0 := eT c7
    have c7b1 := nF c7
    clear c7
    replace H := Option.bind_eq_some_iff.mp H
    obtain ⟨t177, A80, H⟩ := H
    try dsimp only at H
    have A8 := am A80
    clear A80
    by_cases c9 : t177 = true
    ·subst c9
     rw [if_pos rfl] at H
     simp only [Option.some.injEq, Prod.mk.injEq] at H
     obtain ⟨rfl, rfl⟩ := H
     go_wp2_with (first | ((with_reducible refine gC 85 rfl ?_); refine gL (some 15) Try.func85 #[.string t175, .func (.func 87) #[] #[]] ?_; (with_reducible refine (run_figure.calls _ _ _ A6.out).mono ?_); rintro e w' ⟨rfl, ⟨nd, rfl⟩⟩; refine ⟨_, rfl, ?_⟩) | (go_at_call 57; (with_reducible refine (num_May.calls _ _ _ A8.out).mono ?_); rintro e w10 ⟨rfl, hb⟩; replace HB := am (below_step (kL HB) hb)))
     go_ret2
     exact ⟨yE, (kL HB)⟩
    ·replace c9 := Bool.eq_false_iff.mpr c9
     subst c9
     rw [if_neg (show ¬ (false = true) by decide)] at H
     simp only [Option.some.injEq, Prod.mk.injEq] at H
     obtain ⟨rfl, rfl⟩ := H
     go_wp2_with (first | ((with_reducible refine gC 85 rfl ?_); refine gL (some 15) Try.func85 #[.string t175, .func (.func 87) #[] #[]] ?_; (with_reducible refine (run_figure.calls _ _ _ A6.out).mono ?_); rintro e w' ⟨rfl, ⟨nd, rfl⟩⟩; refine ⟨_, rfl, ?_⟩) | (go_at_call 57; (with_reducible refine (num_May.calls _ _ _ A8.out).mono ?_); rintro e w11 ⟨rfl, hb⟩; replace HB := am (below_step (kL HB) hb)))
     go_ret2
     exact ⟨yE, (kL HB)⟩
   ·rw [if_neg c7] at H
    have c7b0 := eF c7
    have c7b1 := nT c7
    simp only [Option.some.injEq, Prod.mk.injEq] at H
    obtain ⟨rfl, rfl⟩ := H
    go_wp2_with ((with_reducible refine gC 85 rfl ?_); refine gL (some 15) Try.func85 #[.string t175, .func (.func 87) #[] #[]] ?_; (with_reducible refine (run_figure.calls _ _ _ A6.out).mono ?_); rintro e w' ⟨rfl, ⟨nd, rfl⟩⟩; refine ⟨_, rfl, ?_⟩)
    go_ret2
    exact ⟨yE, (kL HB)⟩
end Go.Proofs.Ytdelccahgchadaa.P
end
section
namespace Go.Proofs.Ytdelccahgchadaa.P
open Go.RowKit Go.Proofs.YtdelccahgchadaaW.PrintWords Go.Proofs.YtdelccahgchadaaW.PrintLast Go.Proofs.YtdelccahgchadaaW.PrintMore
attribute [local go_sem] max2_int min2_int max_two min_two max_three min_three max_four min_four   
set_option linter.unusedVariables false
set_option linter.unusedSimpArgs false
def lex_small.f (a0 : Int) : Option (Bool) := if a0 ≥ 97 then (some (decide (a0 ≤ 122))) else (some false)
set_option maxHeartbeats 8000000 in
set_option maxRecDepth 100000 in
theorem lex_small.calls (a0 : Int) (r : Bool) (w : World) (h : lex_small.f a0 = some r) :
  Calls Try.prog 84 #[.int .u8 a0] w fun e w' => e = .returned (.bool r) ∧ Drawn0 w w' := by
 have H : (if a0 ≥ 97 then (some (decide (a0 ≤ 122))) else (some false)) = some r := h
 clear h
 by_cases c2 : a0 ≥ 97
 ·rw [if_pos c2] at H
  have c2b0 : decide (97 ≤ a0) = true := decide_eq_true c2
  clear c2
  obtain rfl := Option.some.inj H
  go_enter Try.func84, Try.ntmps84
  go_wp2
  go_ret
  exact ⟨yS, by repeat (first | exact Drawn0.refl _ | apply Drawn0.step)⟩
 ·rw [if_neg c2] at H
  have c2b0 : decide (97 ≤ a0) = false := decide_eq_false c2
  clear c2
  obtain rfl := Option.some.inj H
  go_enter Try.func84, Try.ntmps84
  go_wp2
  go_ret
  exact ⟨yS, by repeat (first | exact Drawn0.refl _ | apply Drawn0.step)⟩
def lex_great.f (a0 : Int) : Option (Bool) := if a0 ≥ 65 then (some (decide (a0 ≤ 90))) else (some false)
set_option maxHeartbeats 8000000 in
set_option maxRecDepth 100000 in
theorem lex_great.calls (a0 : Int) (r : Bool) (w : World) (h : lex_great.f a0 = some r) :
  Calls Try.prog 88 #[.int .u8 a0] w fun e w' => e = .returned (.bool r) ∧ Drawn0 w w' := by
 have H : (if a0 ≥ 65 then (some (decide (a0 ≤ 90))) else (some false)) = some r := h
 clear h
 by_cases c2 : a0 ≥ 65
 ·rw [if_pos c2] at H
  have c2b0 : decide (65 ≤ a0) = true := decide_eq_true c2
  clear c2
  obtain rfl := Option.some.inj H
  go_enter Try.func88, Try.ntmps88
  go_wp2
  go_ret
  exact ⟨yS, by repeat (first | exact Drawn0.refl _ | apply Drawn0.step)⟩
 ·rw [if_neg c2] at H
  have c2b0 : decide (65 ≤ a0) = false := decide_eq_false c2
  clear c2
  obtain rfl := Option.some.inj H
  go_enter Try.func88, Try.ntmps88
  go_wp2
  go_ret
  exact ⟨yS, by repeat (first | exact Drawn0.refl _ | apply Drawn0.step)⟩
def lex_first.f (k : Nat) (a0 : ByteArray) : Option (Int × Int) := if 0 < (a0.size : Int) then ((lex_small.f (bt a0 0)).bind fun t572 => (if t572 = true then ((run_word.f a0).bind fun t573 => (some (2, t573))) else ((lex_great.f (bt a0 0)).bind fun t574 => (if t574 = true then ((run_verb.f a0).bind fun t575 => (some (3, t575))) else ((strings_IndexByte.f (⟨#[43, 45, 42, 37, 33, 38, 124, 60, 62, 61, 126, 44, 35, 94, 36, 63, 64]⟩ : ByteArray) (bt a0 0)).bind fun t576 => (if t576 ≥ 0 then (some (4, 1)) else ((strings_IndexByte.f (⟨#[39, 47, 92, 46, 96]⟩ : ByteArray) (bt a0 0)).bind fun t577 => (if t577 ≥ 0 then (some (5, 1)) else ((strings_IndexByte.f (⟨#[40, 41, 91, 93, 123, 125, 58]⟩ : ByteArray) (bt a0 0)).bind fun t578 => (if t578 ≥ 0 then (some (6, 1)) else ((strings_TrimPrefix.f a0 (⟨#[95]⟩ : ByteArray)).bind fun t579 => ((run_figure.f t579).bind fun t580 => (if 0 ≤ (wrap64 ((wrap64 ((a0.size : Int) - (t579.size : Int))) + t580)) then (if (wrap64 ((wrap64 ((a0.size : Int) - (t579.size : Int))) + t580)) ≤ (a0.size : Int) then ((lex_Number.f k (a0.extract 0 ((wrap64 ((wrap64 ((a0.size : Int) - (t579.size : Int))) + t580)) : Int).toNat)).bind fun bt581 => (if bt581.2 = true then (some (1, wrap64 ((wrap64 ((a0.size : Int) - (t579.size : Int))) + t580))) else (some (0, 0)))) else (none)) else (none)))))))))))))) else (none)
set_option maxHeartbeats 8000000 in
set_option maxRecDepth 100000 in
theorem lex_first.calls (k : Nat) (a0 : ByteArray) (r1 : Int) (r2 : Int) (w : World) (h : lex_first.f k a0 = some (r1, r2)) :
  Calls Try.prog 65 #[.string a0] w fun e w' => e = .returned (.tuple #[.int .i64 r1, .int .i64 r2]) ∧ Below w.heap.size w w' := by
 have HB := am (Below.refl w.heap.size w)
 have H : (if 0 < (a0.size : Int) then ((lex_small.f (bt a0 0)).bind fun t572 => (if t572 = true then ((run_word.f a0).bind fun t573 => (some (2, t573))) else ((lex_great.f (bt a0 0)).bind fun t574 => (if t574 = true then ((run_verb.f a0).bind fun t575 => (some (3, t575))) else ((strings_IndexByte.f (⟨#[43, 45, 42, 37, 33, 38, 124, 60, 62, 61, 126, 44, 35, 94, 36, 63, 64]⟩ : ByteArray) (bt a0 0)).bind fun t576 => (if t576 ≥ 0 then (some (4, 1)) else ((strings_IndexByte.f (⟨#[39, 47, 92, 46, 96]⟩ : ByteArray) (bt a0 0)).bind fun t577 => (if t577 ≥ 0 then (some (5, 1)) else ((strings_IndexByte.f (⟨#[40, 41, 91, 93, 123, 125, 58]⟩ : ByteArray) (bt a0 0)).bind fun t578 => (if t578 ≥ 0 then (some (6, 1)) else ((strings_TrimPrefix.f a0 (⟨#[95]⟩ : ByteArray)).bind fun t579 => ((run_figure.f t579).bind fun t580 => (if 0 ≤ (wrap64 ((wrap64 ((a0.size : Int) - (t579.size : Int))) + t580)) then (if (wrap64 ((wrap64 ((a0.size : Int) - (t579.size : Int))) + t580)) ≤ (a0.size : Int) then ((lex_Number.f k (a0.extract 0 ((wrap64 ((wrap64 ((a0.size : Int) - (t579.size : Int))) + t580)) : Int).toNat)).bind fun bt581 => (if bt581.2 = true then (some (1, wrap64 ((wrap64 ((a0.size : Int) - (t579.size : Int))) + t580))) else (some (0, 0)))) else (none)) else (none)))))))))))))) else (none)) = some (r1, r2) := h
 clear h
 by_cases c2 : 0 < (a0.size : Int)
 ·rw [if_pos c2] at H
  have c2b0 : decide (0 < (a0.size : Int)) = true := decide_eq_true c2
  have c2b1 : decide (0 < a0.size) = true := decide_eq_true (by omega)
  clear c2
  replace H := Option.bind_eq_some_iff.mp H
  obtain ⟨t572, A40, H⟩ := H
  try dsimp only at H
  have A4 := am A40
  clear A40
  by_cases c5 : t572 = true
  ·subst c5
   rw [if_pos rfl] at H
   replace H := Option.bind_eq_some_iff.mp H
   obtain ⟨t573, A60, H⟩ := H
   try dsimp only at H
   have A6 := am A60
   clear A60
   simp only [Option.some.injEq, Prod.mk.injEq] at H
   obtain ⟨rfl, rfl⟩ := H
   have p3 : 0 ≤ (0 : Int) := (by omega)
   have q3 : 0 < a0.size := (by have : (0 : Int) < (a0.size : Int) := of_decide_eq_true yY; omega)
   have hx3 : ∀ h : 0 < a0.size, ((a0[0]'h).toNat : Int) = bt a0 0 := bt_at a0 0
   clear p3
   have qi3 : (0 < (a0.size : Int)) = True := eq_true (of_decide_eq_true yY)
   replace q3 := eq_true q3
   go_enter Try.func65, Try.ntmps65
   go_wp2_with (first | ((with_reducible refine gC 84 rfl ?_); refine gL (some 13) Try.func84 #[.int .u8 (bt a0 0)] ?_; (with_reducible refine (lex_small.calls _ _ _ A4.out).mono ?_); rintro e w' ⟨rfl, ⟨nd, rfl⟩⟩; refine ⟨_, rfl, ?_⟩) | ((with_reducible refine gC 85 rfl ?_); refine gL (some 15) Try.func85 #[.string a0, .func (.func 86) #[] #[]] ?_; (with_reducible refine (run_word.calls _ _ _ A6.out).mono ?_); rintro e w' ⟨rfl, ⟨nd, rfl⟩⟩; refine ⟨_, rfl, ?_⟩))
   go_ret2
   exact ⟨yE, (kL HB)⟩
  ·replace c5 := Bool.eq_false_iff.mpr c5
   subst c5
   rw [if_neg (show ¬ (false = true) by decide)] at H
   replace H := Option.bind_eq_some_iff.mp H
   obtain ⟨t574, A70, H⟩ := H
   try dsimp only at H
   have A7 := am A70
   clear A70
   by_cases c8 : t574 = true
   ·subst c8
    rw [if_pos rfl] at H
    replace H := Option.bind_eq_some_iff.mp H
    obtain ⟨t575, A90, H⟩ := H
    try dsimp only at H
    have A9 := am A90
    clear A90
    simp only [Option.some.injEq, Prod.mk.injEq] at H
    obtain ⟨rfl, rfl⟩ := H
    have p3 : 0 ≤ (0 : Int) := (by omega)
    have q3 : 0 < a0.size := (by have : (0 : Int) < (a0.size : Int) := of_decide_eq_true yY; omega)
    have hx3 : ∀ h : 0 < a0.size, ((a0[0]'h).toNat : Int) = bt a0 0 := bt_at a0 0
    clear p3
    have qi3 : (0 < (a0.size : Int)) = True := eq_true (of_decide_eq_true yY)
    replace q3 := eq_true q3
    go_enter Try.func65, Try.ntmps65
    go_wp2_with (first | ((with_reducible refine gC 84 rfl ?_); refine gL (some 13) Try.func84 #[.int .u8 (bt a0 0)] ?_; (with_reducible refine (lex_small.calls _ _ _ A4.out).mono ?_); rintro e w' ⟨rfl, ⟨nd, rfl⟩⟩; refine ⟨_, rfl, ?_⟩) | ((with_reducible refine gC 88 rfl ?_); refine gL (some 18) Try.func88 #[.int .u8 (bt a0 0)] ?_; (with_reducible refine (lex_great.calls _ _ _ A7.out).mono ?_); rintro e w' ⟨rfl, ⟨nd, rfl⟩⟩; refine ⟨_, rfl, ?_⟩) | ((with_reducible refine gC 85 rfl ?_); refine gL (some 20) Try.func85 #[.string a0, .func (.func 89) #[] #[]] ?_; (with_reducible refine (run_verb.calls _ _ _ A9.out).mono ?_); rintro e w' ⟨rfl, ⟨nd, rfl⟩⟩; refine ⟨_, rfl, ?_⟩))
    go_ret2
    exact ⟨yE, (kL HB)⟩
   ·replace c8 := Bool.eq_false_iff.mpr c8
    subst c8
    rw [if_neg (show ¬ (false = true) by decide)] at H
    replace H := Option.bind_eq_some_iff.mp H
    obtain ⟨t576, A100, H⟩ := H
    try dsimp only at H
    have A10 := am A100
    clear A100
    by_cases c11 : t576 ≥ 0
    ·rw [if_pos c11] at H
     have c11b0 : decide (0 ≤ t576) = true := decide_eq_true c11
     clear c11
     simp only [Option.some.injEq, Prod.mk.injEq] at H
     obtain ⟨rfl, rfl⟩ := H
     have p3 : 0 ≤ (0 : Int) := (by omega)
     have q3 : 0 < a0.size := (by have : (0 : Int) < (a0.size : Int) := of_decide_eq_true yY; omega)
     have hx3 : ∀ h : 0 < a0.size, ((a0[0]'h).toNat : Int) = bt a0 0 := bt_at a0 0
     clear p3
     have qi3 : (0 < (a0.size : Int)) = True := eq_true (of_decide_eq_true yY)
     replace q3 := eq_true q3
     go_enter Try.func65, Try.ntmps65
     go_wp2_with (first | ((with_reducible refine gC 84 rfl ?_); refine gL (some 13) Try.func84 #[.int .u8 (bt a0 0)] ?_; (with_reducible refine (lex_small.calls _ _ _ A4.out).mono ?_); rintro e w' ⟨rfl, ⟨nd, rfl⟩⟩; refine ⟨_, rfl, ?_⟩) | ((with_reducible refine gC 88 rfl ?_); refine gL (some 18) Try.func88 #[.int .u8 (bt a0 0)] ?_; (with_reducible refine (lex_great.calls _ _ _ A7.out).mono ?_); rintro e w' ⟨rfl, ⟨nd, rfl⟩⟩; refine ⟨_, rfl, ?_⟩) | ((with_reducible refine gC 90 rfl ?_); refine gL (some 23) Try.func90 #[.string (⟨#[43, 45, 42, 37, 33, 38, 124, 60, 62, 61, 126, 44, 35, 94, 36, 63, 64]⟩ : ByteArray), .int .u8 (bt a0 0)] ?_; (with_reducible refine (strings_IndexByte.calls _ _ _ _ A10.out).mono ?_); rintro e w' ⟨rfl, ⟨nd, rfl⟩⟩; refine ⟨_, rfl, ?_⟩))
     go_ret2
     exact ⟨yE, (kL HB)⟩
    ·rw [if_neg c11] at H
     have c11b0 : decide (0 ≤ t576) = false := decide_eq_false c11
     clear c11
     replace H := Option.bind_eq_some_iff.mp H
     obtain ⟨t577, A120, H⟩ := H
     try dsimp only at H
     have A12 := am A120
     clear A120
     by_cases c13 : t577 ≥ 0
     ·rw [if_pos c13] at H
      have c13b0 : decide (0 ≤ t577) = true := decide_eq_true c13
      clear c13
      simp only [Option.some.injEq, Prod.mk.injEq] at H
      obtain ⟨rfl, rfl⟩ := H
      have p3 : 0 ≤ (0 : Int) := (by omega)
      have q3 : 0 < a0.size := (by have : (0 : Int) < (a0.size : Int) := of_decide_eq_true yY; omega)
      have hx3 : ∀ h : 0 < a0.size, ((a0[0]'h).toNat : Int) = bt a0 0 := bt_at a0 0
      clear p3
      have qi3 : (0 < (a0.size : Int)) = True := eq_true (of_decide_eq_true yY)
      replace q3 := eq_true q3
      go_enter Try.func65, Try.ntmps65
      go_wp2_with (first | ((with_reducible refine gC 84 rfl ?_); refine gL (some 13) Try.func84 #[.int .u8 (bt a0 0)] ?_; (with_reducible refine (lex_small.calls _ _ _ A4.out).mono ?_); rintro e w' ⟨rfl, ⟨nd, rfl⟩⟩; refine ⟨_, rfl, ?_⟩) | ((with_reducible refine gC 88 rfl ?_); refine gL (some 18) Try.func88 #[.int .u8 (bt a0 0)] ?_; (with_reducible refine (lex_great.calls _ _ _ A7.out).mono ?_); rintro e w' ⟨rfl, ⟨nd, rfl⟩⟩; refine ⟨_, rfl, ?_⟩) | ((with_reducible refine gC 90 rfl ?_); refine gL (some 23) Try.func90 #[.string (⟨#[43, 45, 42, 37, 33, 38, 124, 60, 62, 61, 126, 44, 35, 94, 36, 63, 64]⟩ : ByteArray), .int .u8 (bt a0 0)] ?_; (with_reducible refine (strings_IndexByte.calls _ _ _ _ A10.out).mono ?_); rintro e w' ⟨rfl, ⟨nd, rfl⟩⟩; refine ⟨_, rfl, ?_⟩) | ((with_reducible refine gC 90 rfl ?_); refine gL (some 27) Try.func90 #[.string (⟨#[39, 47, 92, 46, 96]⟩ : ByteArray), .int .u8 (bt a0 0)] ?_; (with_reducible refine (strings_IndexByte.calls _ _ _ _ A12.out).mono ?_); rintro e w' ⟨rfl, ⟨nd, rfl⟩⟩; refine ⟨_, rfl, ?_⟩))
      go_ret2
      exact ⟨yE, (kL HB)⟩
     ·rw [if_neg c13] at H
      have c13b0 : decide (0 ≤ t577) = false := decide_eq_false c13
      clear c13
      replace H := Option.bind_eq_some_iff.mp H
      obtain ⟨t578, A140, H⟩ := H
      try dsimp only at H
      have A14 := am A140
      clear A140
      by_cases c15 : t578 ≥ 0
      ·rw [if_pos c15] at H
       have c15b0 : decide (0 ≤ t578) = true := decide_eq_true c15
       clear c15
       simp only [Option.some.injEq, Prod.mk.injEq] at H
       obtain ⟨rfl, rfl⟩ := H
       have p3 : 0 ≤ (0 : Int) := (by omega)
       have q3 : 0 < a0.size := (by have : (0 : Int) < (a0.size : Int) := of_decide_eq_true yY; omega)
       have hx3 : ∀ h : 0 < a0.size, ((a0[0]'h).toNat : Int) = bt a0 0 := bt_at a0 0
       clear p3
       have qi3 : (0 < (a0.size : Int)) = True := eq_true (of_decide_eq_true yY)
       replace q3 := eq_true q3
       go_enter Try.func65, Try.ntmps65
       go_wp2_with (first | ((with_reducible refine gC 84 rfl ?_); refine gL (some 13) Try.func84 #[.int .u8 (bt a0 0)] ?_; (with_reducible refine (lex_small.calls _ _ _ A4.out).mono ?_); rintro e w' ⟨rfl, ⟨nd, rfl⟩⟩; refine ⟨_, rfl, ?_⟩) | ((with_reducible refine gC 88 rfl ?_); refine gL (some 18) Try.func88 #[.int .u8 (bt a0 0)] ?_; (with_reducible refine (lex_great.calls _ _ _ A7.out).mono ?_); rintro e w' ⟨rfl, ⟨nd, rfl⟩⟩; refine ⟨_, rfl, ?_⟩) | ((with_reducible refine gC 90 rfl ?_); refine gL (some 23) Try.func90 #[.string (⟨#[43, 45, 42, 37, 33, 38, 124, 60, 62, 61, 126, 44, 35, 94, 36, 63, 64]⟩ : ByteArray), .int .u8 (bt a0 0)] ?_; (with_reducible refine (strings_IndexByte.calls _ _ _ _ A10.out).mono ?_); rintro e w' ⟨rfl, ⟨nd, rfl⟩⟩; refine ⟨_, rfl, ?_⟩) | ((with_reducible refine gC 90 rfl ?_); refine gL (some 27) Try.func90 #[.string (⟨#[39, 47, 92, 46, 96]⟩ : ByteArray), .int .u8 (bt a0 0)] ?_; (with_reducible refine (strings_IndexByte.calls _ _ _ _ A12.out).mono ?_); rintro e w' ⟨rfl, ⟨nd, rfl⟩⟩; refine ⟨_, rfl, ?_⟩) | ((with_reducible refine gC 90 rfl ?_); refine gL (some 31) Try.func90 #[.string (⟨#[40, 41, 91, 93, 123, 125, 58]⟩ : ByteArray), .int .u8 (bt a0 0)] ?_; (with_reducible refine (strings_IndexByte.calls _ _ _ _ A14.out).mono ?_); rintro e w' ⟨rfl, ⟨nd, rfl⟩⟩; refine ⟨_, rfl, ?_⟩))
       go_ret2
       exact ⟨yE, (kL HB)⟩
      ·rw [if_neg c15] at H
       have c15b0 : decide (0 ≤ t578) = false := decide_eq_false c15
       clear c15
       replace H := Option.bind_eq_some_iff.mp H
       obtain ⟨t579, A160, H⟩ := H
       try dsimp only at H
       have A16 := am A160
       clear A160
       replace H := Option.bind_eq_some_iff.mp H
       obtain ⟨t580, A170, H⟩ := H
       try dsimp only at H
       have A17 := am A170
       clear A170
       obtain ⟨ji18, hji18⟩ : ∃ j_ : Int, (wrap64 ((wrap64 ((a0.size : Int) - (t579.size : Int))) + t580)) = j_ := ⟨_, rfl⟩
       replace H : (if 0 ≤ (ji18) then (if (ji18) ≤ (a0.size : Int) then ((lex_Number.f k (a0.extract 0 ((ji18) : Int).toNat)).bind fun bt581 => (if bt581.2 = true then (some (1, ji18)) else (some (0, 0)))) else (none)) else (none)) = some (r1, r2) := by first | (rw [hji18] at H; exact H) | (simp only [hji18] at H ⊢; exact H)
       (try rw [hji18] at A4)
       (try rw [hji18] at A7)
       (try rw [hji18] at A10)
       (try rw [hji18] at A12)
       (try rw [hji18] at A14)
       (try rw [hji18] at A16)
       (try rw [hji18] at A17)
       have hji18w : (IntKind.i64.wrap ((wrap64 ((a0.size : Int) - (t579.size : Int))) + t580)) = ji18 := (i64_w _).trans hji18
       by_cases c19 : 0 ≤ (ji18)
       ·rw [if_pos c19] at H
        have c19b0 := eq_true c19
        have c19b1 : decide (0 ≤ (ji18)) = true := decide_eq_true c19
        clear c19
        by_cases c20 : (ji18) ≤ (a0.size : Int)
        ·rw [if_pos c20] at H
         have c20b0 := eq_true c20
         have c20b1 : decide ((ji18) ≤ (a0.size : Int)) = true := decide_eq_true c20
         clear c20
         replace H := Option.bind_eq_some_iff.mp H
         obtain ⟨⟨t581, t582⟩, A210, H⟩ := H
         try dsimp only at H
         have A21 := am A210
         clear A210
         by_cases c22 : t582 = true
         ·subst c22
          rw [if_pos rfl] at H
          simp only [Option.some.injEq, Prod.mk.injEq] at H
          obtain ⟨rfl, rfl⟩ := H
          have p3 : 0 ≤ (0 : Int) := (by omega)
          have q3 : 0 < a0.size := (by have : (0 : Int) < (a0.size : Int) := of_decide_eq_true yY; omega)
          have hx3 : ∀ h : 0 < a0.size, ((a0[0]'h).toNat : Int) = bt a0 0 := bt_at a0 0
          clear p3
          have qi3 : (0 < (a0.size : Int)) = True := eq_true (of_decide_eq_true yY)
          replace q3 := eq_true q3
          go_enter Try.func65, Try.ntmps65
          go_wp2_with (first | ((with_reducible refine gC 84 rfl ?_); refine gL (some 13) Try.func84 #[.int .u8 (bt a0 0)] ?_; (with_reducible refine (lex_small.calls _ _ _ A4.out).mono ?_); rintro e w' ⟨rfl, ⟨nd, rfl⟩⟩; refine ⟨_, rfl, ?_⟩) | ((with_reducible refine gC 88 rfl ?_); refine gL (some 18) Try.func88 #[.int .u8 (bt a0 0)] ?_; (with_reducible refine (lex_great.calls _ _ _ A7.out).mono ?_); rintro e w' ⟨rfl, ⟨nd, rfl⟩⟩; refine ⟨_, rfl, ?_⟩) | ((with_reducible refine gC 90 rfl ?_); refine gL (some 23) Try.func90 #[.string (⟨#[43, 45, 42, 37, 33, 38, 124, 60, 62, 61, 126, 44, 35, 94, 36, 63, 64]⟩ : ByteArray), .int .u8 (bt a0 0)] ?_; (with_reducible refine (strings_IndexByte.calls _ _ _ _ A10.out).mono ?_); rintro e w' ⟨rfl, ⟨nd, rfl⟩⟩; refine ⟨_, rfl, ?_⟩) | ((with_reducible refine gC 90 rfl ?_); refine gL (some 27) Try.func90 #[.string (⟨#[39, 47, 92, 46, 96]⟩ : ByteArray), .int .u8 (bt a0 0)] ?_; (with_reducible refine (strings_IndexByte.calls _ _ _ _ A12.out).mono ?_); rintro e w' ⟨rfl, ⟨nd, rfl⟩⟩; refine ⟨_, rfl, ?_⟩) | ((with_reducible refine gC 90 rfl ?_); refine gL (some 31) Try.func90 #[.string (⟨#[40, 41, 91, 93, 123, 125, 58]⟩ : ByteArray), .int .u8 (bt a0 0)] ?_; (with_reducible refine (strings_IndexByte.calls _ _ _ _ A14.out).mono ?_); rintro e w' ⟨rfl, ⟨nd, rfl⟩⟩; refine ⟨_, rfl, ?_⟩) | ((with_reducible refine gC 80 rfl ?_); refine gL (some 34) Try.func80 #[.string a0, .string (⟨#[95]⟩ : ByteArray)] ?_; (with_reducible refine (strings_TrimPrefix.calls _ _ _ _ A16.out).mono ?_); rintro e w' ⟨rfl, ⟨nd, rfl⟩⟩; refine ⟨_, rfl, ?_⟩) | ((with_reducible refine gC 85 rfl ?_); refine gL (some 41) Try.func85 #[.string t579, .func (.func 87) #[] #[]] ?_; (with_reducible refine (run_figure.calls _ _ _ A17.out).mono ?_); rintro e w' ⟨rfl, ⟨nd, rfl⟩⟩; refine ⟨_, rfl, ?_⟩) | ((with_reducible refine gC 91 rfl ?_); refine goesL_ (some 47) rfl rfl Try.func91 (by kernel_rfl) rfl #[.string (a0.extract 0 ((ji18) : Int).toNat)] rfl (by (try simp only [List.map_toArray, List.map_cons, List.map_nil]); first | done | (simp only [hji18]; rfl) | rfl | (simp only [List.length_drop, List.length_take]; rfl)) ?_; (with_reducible refine (lex_Number.calls _ _ _ _ _ A21.out).mono ?_); rintro e w23 ⟨rfl, hb⟩; refine ⟨_, rfl, ?_⟩; replace HB := am (below_step (kL HB) hb)))
          go_ret2
          exact ⟨by first | rfl | (simp [errW_none, errW_some] <;> rfl) | (simp only [← hji18]; first | rfl | (simp [errW_none, errW_some] <;> rfl)) | (simp [*, errW_none, errW_some] <;> rfl), (kL HB)⟩
         ·replace c22 := Bool.eq_false_iff.mpr c22
          subst c22
          rw [if_neg (show ¬ (false = true) by decide)] at H
          simp only [Option.some.injEq, Prod.mk.injEq] at H
          obtain ⟨rfl, rfl⟩ := H
          have p3 : 0 ≤ (0 : Int) := (by omega)
          have q3 : 0 < a0.size := (by have : (0 : Int) < (a0.size : Int) := of_decide_eq_true yY; omega)
          have hx3 : ∀ h : 0 < a0.size, ((a0[0]'h).toNat : Int) = bt a0 0 := bt_at a0 0
          clear p3
          have qi3 : (0 < (a0.size : Int)) = True := eq_true (of_decide_eq_true yY)
          replace q3 := eq_true q3
          go_enter Try.func65, Try.ntmps65
          go_wp2_with (first | ((with_reducible refine gC 84 rfl ?_); refine gL (some 13) Try.func84 #[.int .u8 (bt a0 0)] ?_; (with_reducible refine (lex_small.calls _ _ _ A4.out).mono ?_); rintro e w' ⟨rfl, ⟨nd, rfl⟩⟩; refine ⟨_, rfl, ?_⟩) | ((with_reducible refine gC 88 rfl ?_); refine gL (some 18) Try.func88 #[.int .u8 (bt a0 0)] ?_; (with_reducible refine (lex_great.calls _ _ _ A7.out).mono ?_); rintro e w' ⟨rfl, ⟨nd, rfl⟩⟩; refine ⟨_, rfl, ?_⟩) | ((with_reducible refine gC 90 rfl ?_); refine gL (some 23) Try.func90 #[.string (⟨#[43, 45, 42, 37, 33, 38, 124, 60, 62, 61, 126, 44, 35, 94, 36, 63, 64]⟩ : ByteArray), .int .u8 (bt a0 0)] ?_; (with_reducible refine (strings_IndexByte.calls _ _ _ _ A10.out).mono ?_); rintro e w' ⟨rfl, ⟨nd, rfl⟩⟩; refine ⟨_, rfl, ?_⟩) | ((with_reducible refine gC 90 rfl ?_); refine gL (some 27) Try.func90 #[.string (⟨#[39, 47, 92, 46, 96]⟩ : ByteArray), .int .u8 (bt a0 0)] ?_; (with_reducible refine (strings_IndexByte.calls _ _ _ _ A12.out).mono ?_); rintro e w' ⟨rfl, ⟨nd, rfl⟩⟩; refine ⟨_, rfl, ?_⟩) | ((with_reducible refine gC 90 rfl ?_); refine gL (some 31) Try.func90 #[.string (⟨#[40, 41, 91, 93, 123, 125, 58]⟩ : ByteArray), .int .u8 (bt a0 0)] ?_; (with_reducible refine (strings_IndexByte.calls _ _ _ _ A14.out).mono ?_); rintro e w' ⟨rfl, ⟨nd, rfl⟩⟩; refine ⟨_, rfl, ?_⟩) | ((with_reducible refine gC 80 rfl ?_); refine gL (some 34) Try.func80 #[.string a0, .string (⟨#[95]⟩ : ByteArray)] ?_; (with_reducible refine (strings_TrimPrefix.calls _ _ _ _ A16.out).mono ?_); rintro e w' ⟨rfl, ⟨nd, rfl⟩⟩; refine ⟨_, rfl, ?_⟩) | ((with_reducible refine gC 85 rfl ?_); refine gL (some 41) Try.func85 #[.string t579, .func (.func 87) #[] #[]] ?_; (with_reducible refine (run_figure.calls _ _ _ A17.out).mono ?_); rintro e w' ⟨rfl, ⟨nd, rfl⟩⟩; refine ⟨_, rfl, ?_⟩) | ((with_reducible refine gC 91 rfl ?_); refine goesL_ (some 47) rfl rfl Try.func91 (by kernel_rfl) rfl #[.string (a0.extract 0 ((ji18) : Int).toNat)] rfl (by (try simp only [List.map_toArray, List.map_cons, List.map_nil]); first | done | (simp only [hji18]; rfl) | rfl | (simp only [List.length_drop, List.length_take]; rfl)) ?_; (with_reducible refine (lex_Number.calls _ _ _ _ _ A21.out).mono ?_); rintro e w24 ⟨rfl, hb⟩; refine ⟨_, rfl, ?_⟩; replace HB := am (below_step (kL HB) hb)))
          go_ret2
          exact ⟨by first | rfl | (simp [errW_none, errW_some] <;> rfl) | (simp only [← hji18]; first | rfl | (simp [errW_none, errW_some] <;> rfl)) | (simp [*, errW_none, errW_some] <;> rfl), (kL HB)⟩
        ·rw [if_neg c20] at H
         exact absurd H (by simp)
       ·rw [if_neg c19] at H
        exact absurd H (by simp)
 ·rw [if_neg c2] at H
  exact absurd H (by simp)
end Go.Proofs.Ytdelccahgchadaa.P
end
section
namespace Go.Proofs.Ytdelccahgchadaa.P
open Go.RowKit Go.Proofs.YtdelccahgchadaaW.PrintWords Go.Proofs.YtdelccahgchadaaW.PrintLast Go.Proofs.YtdelccahgchadaaW.PrintMore
attribute [local go_sem] max2_int min2_int max_two min_two max_three min_three max_four min_four   
set_option linter.unusedVariables false
set_option linter.unusedSimpArgs false
def lex_Lex.l0 : Nat → ByteArray → List (S71) → Int → Option ((List (S71)) × Int × Int)
 | 0, _, _, _ => none
 | k + 1, x0, x5, x6 => if x6 < (x0.size : Int) then (if 0 ≤ x6 then (if 0 < 1 then (if (bt x0 x6) = (bt (⟨#[32]⟩ : ByteArray) 0) then (lex_Lex.l0 k x0 x5 (wrap64 (x6 + 1))) else (if x6 ≤ (x0.size : Int) then ((lex_first.f k (x0.extract (x6 : Int).toNat x0.size)).bind fun bt583 => (if bt583.1 = 0 then (some (([] : List (S71)), x6, 2)) else (if x6 ≤ (wrap64 (x6 + bt583.2)) then (if (wrap64 (x6 + bt583.2)) ≤ (x0.size : Int) then (if x5.length < 4398046511104 then (lex_Lex.l0 k x0 (x5 ++ [(⟨bt583.1, x0.extract (x6 : Int).toNat ((wrap64 (x6 + bt583.2)) : Int).toNat, x6⟩ : S71)]) (wrap64 (x6 + bt583.2))) else (none)) else (none)) else (none)))) else (none))) else (none)) else (none)) else (some (x5, 0, 0))
def lex_Lex.f (k : Nat) (a0 : ByteArray) : Option ((List (S71)) × Int × Int) := if (a0.size : Int) > 256 then (some (([] : List (S71)), 0, 8)) else (lex_Lex.l0 k a0 ([] : List (S71)) 0)
set_option maxHeartbeats 8000000 in
set_option maxRecDepth 100000 in
theorem lex_Lex.calls (k : Nat) (a0 : ByteArray) (r1 : List (S71)) (r2 : Int) (r3 : Int) (w : World) (h : lex_Lex.f k a0 = some (r1, r2, r3)) :
  Calls Try.prog 49 #[.string a0] w fun e w' => ∃ v0_ : Value, e = .returned (.tuple #[v0_, .int .i64 r2, .int .i64 r3]) ∧ Kd.R k71 71 w' w.heap.size (fun _ => True) v0_ r1 ∧ Below w.heap.size w w' := by
 have hu71 := Try.underlying71
 have HB := am (Below.refl w.heap.size w)
 have H : (if (a0.size : Int) > 256 then (some (([] : List (S71)), 0, 8)) else (lex_Lex.l0 k a0 ([] : List (S71)) 0)) = some (r1, r2, r3) := h
 clear h
 by_cases c2 : (a0.size : Int) > 256
 ·rw [if_pos c2] at H
  have c2b0 : decide (256 < (a0.size : Int)) = true := decide_eq_true c2
  have c2b1 : decide (256 < a0.size) = true := decide_eq_true (by omega)
  clear c2
  simp only [Option.some.injEq, Prod.mk.injEq] at H
  obtain ⟨rfl, rfl, rfl⟩ := H
  go_enter Try.func49, Try.ntmps49
  (try go_wp2)
  (try go_step3)
  go_wp2
  repeat (go_quiet (fail); try go_wp2)
  (try rw [Exit.noGoto_ret])
  go_ret3
  exact ⟨_, yE, by first | exact Kd.R_nil _ _ _ _ _ | exact Kd.N_nil _ _ _ _ _ | exact Kd.V_nil _ _ _ _ _ | exact Kd.Q_nil _ _ _ _ _ | exact Kd.S_nil _ _ _ _ _, (kL HB)⟩
 ·rw [if_neg c2] at H
  have c2b0 : decide (256 < (a0.size : Int)) = false := decide_eq_false c2
  have c2b1 : decide (256 < a0.size) = false := decide_eq_false (by omega)
  clear c2
  have H' := am H
  clear H
  go_enter Try.func49, Try.ntmps49
  (try go_wp2)
  (try go_step3)
  go_wp2
  repeat (go_quiet (fail); try go_wp2)
  (try go_step3)
  (try go_wp2)
  go_loopg [5, 6] k (fun kq v5 v6 w' => ∃ (x5_1 : List (S71)) (x6_1 : Int), v6 = .int .i64 x6_1 ∧ Aside0 (lex_Lex.l0 kq a0 x5_1 x6_1 = some (r1, r2, r3)) ∧ Aside0 (kq ≤ k) ∧ Aside0 (Kd.R k71 71 w' w.heap.size (fun _ => True) v5 x5_1) ∧ Aside0 (Below w.heap.size w w'))
  case atStart => exact ⟨(([] : List (S71))), (0), yS, H', ⟨Nat.le_refl _⟩, ⟨by first | exact Kd.R_nil _ _ _ _ _ | exact Kd.N_nil _ _ _ _ _ | exact Kd.V_nil _ _ _ _ _ | exact Kd.Q_nil _ _ _ _ _ | exact Kd.S_nil _ _ _ _ _⟩, ⟨(kL HB)⟩⟩
  case round =>
   clear H'
   try clear c2
   try clear c2b0
   try clear c2b1
   try clear p2
   obtain ⟨x5_1, x6_1, rfl, HA, HK1, HO_5, HB⟩ := hrel
   cases gk with
   | zero => exact absurd HA.out (by simp [lex_Lex.l0])
   | succ k1 =>
    have H := HA.out
    clear HA
    simp only [lex_Lex.l0] at H
    by_cases c3 : x6_1 < (a0.size : Int)
    ·rw [if_pos c3] at H
     have c3b0 : decide (x6_1 < (a0.size : Int)) = true := decide_eq_true c3
     clear c3
     by_cases c4 : 0 ≤ x6_1
     ·rw [if_pos c4] at H
      have c4b0 : decide (0 ≤ x6_1) = true := decide_eq_true c4
      clear c4
      by_cases c6 : 0 < 1
      ·rw [if_pos c6] at H
       have c6b0 : decide (0 < 1) = true := decide_eq_true c6
       clear c6
       by_cases c8 : (bt a0 x6_1) = (bt (⟨#[32]⟩ : ByteArray) 0)
       ·rw [if_pos c8] at H
        have c8b0 : ((bt a0 x6_1) == (bt (⟨#[32]⟩ : ByteArray) 0)) = true := beq_iff_eq.mpr c8
        have c8b1 : ((bt a0 x6_1) != (bt (⟨#[32]⟩ : ByteArray) 0)) = false := bne_eq_false_iff_eq.mpr c8
        clear c8
        have H' := am H
        clear H
        have p5 : 0 ≤ (x6_1 : Int) := of_decide_eq_true yY
        have q5 : x6_1 < (a0.size : Int) := of_decide_eq_true yY
        have hx5 := bt_at a0 x6_1
        replace p5 := eq_true p5
        replace q5 := eq_true q5
        have p7 : 0 ≤ (0 : Int) := (by omega)
        have q7 : 0 < (1 : Int) := (by omega)
        have hx7 := bt_at (⟨#[32]⟩ : ByteArray) 0
        have hx7L : ∀ (h : 0 < (⟨#[32]⟩ : ByteArray).size), ((((⟨#[32]⟩ : ByteArray)[0]'h).toNat : Nat) : Int) = bt (⟨#[32]⟩ : ByteArray) 0 := fun h => hx7 h
        replace p7 := eq_true p7
        replace q7 := eq_true q7
        go_wp2
        repeat (go_quiet (fail); try go_wp2)
        go_roundg k1
        case measure => have := HK1.out; omega
        case rel => exact ⟨(x5_1), (wrap64 (x6_1 + 1)), yS, H', ⟨by have := HK1.out; omega⟩, ⟨rB HO_5⟩, ⟨(kL HB)⟩⟩
       ·rw [if_neg c8] at H
        have c8b0 : ((bt a0 x6_1) == (bt (⟨#[32]⟩ : ByteArray) 0)) = false := beq_eq_false_iff_ne.mpr c8
        have c8b1 : ((bt a0 x6_1) != (bt (⟨#[32]⟩ : ByteArray) 0)) = true := bne_iff_ne.mpr c8
        have c9b0 := eq_true (of_decide_eq_true yY : 0 ≤ x6_1)
        by_cases c10 : x6_1 ≤ (a0.size : Int)
        ·rw [if_pos c10] at H
         have c10b0 := eq_true c10
         have c10b1 : decide (x6_1 ≤ (a0.size : Int)) = true := decide_eq_true c10
         clear c10
         replace H := Option.bind_eq_some_iff.mp H
         obtain ⟨⟨t583, t584⟩, A110, H⟩ := H
         try dsimp only at H
         have A11 := am A110
         clear A110
         by_cases c12 : t583 = 0
         ·rw [if_pos c12] at H
          have c12b0 := eT c12
          have c12b1 := nF c12
          clear c12
          simp only [Option.some.injEq, Prod.mk.injEq] at H
          obtain ⟨rfl, rfl, rfl⟩ := H
          have p5 : 0 ≤ (x6_1 : Int) := of_decide_eq_true yY
          have q5 : x6_1 < (a0.size : Int) := of_decide_eq_true yY
          have hx5 := bt_at a0 x6_1
          replace p5 := eq_true p5
          replace q5 := eq_true q5
          have p7 : 0 ≤ (0 : Int) := (by omega)
          have q7 : 0 < (1 : Int) := (by omega)
          have hx7 := bt_at (⟨#[32]⟩ : ByteArray) 0
          have hx7L : ∀ (h : 0 < (⟨#[32]⟩ : ByteArray).size), ((((⟨#[32]⟩ : ByteArray)[0]'h).toNat : Nat) : Int) = bt (⟨#[32]⟩ : ByteArray) 0 := fun h => hx7 h
          replace p7 := eq_true p7
          replace q7 := eq_true q7
          go_wp2_with (go_at_call 65; (with_reducible refine (lex_first.calls _ _ _ _ _ A11.out).mono ?_); rintro e w13 ⟨rfl, hb⟩; replace HO_5 := am (Kd.R_below (rB HO_5) hb); replace HB := am (below_step (kL HB) hb); (try clear hb))
          repeat (go_quiet (first | (go_at_call 65; (with_reducible refine (lex_first.calls _ _ _ _ _ A11.out).mono ?_); rintro e w13 ⟨rfl, hb⟩; replace HO_5 := am (Kd.R_below (rB HO_5) hb); replace HB := am (below_step (kL HB) hb); (try clear hb))); try go_wp2_with (go_at_call 65; (with_reducible refine (lex_first.calls _ _ _ _ _ A11.out).mono ?_); rintro e w13 ⟨rfl, hb⟩; replace HO_5 := am (Kd.R_below (rB HO_5) hb); replace HB := am (below_step (kL HB) hb); (try clear hb)))
          (try rw [Exit.noGoto_ret])
          go_ret3
          exact ⟨_, yE, by first | exact Kd.R_nil _ _ _ _ _ | exact Kd.N_nil _ _ _ _ _ | exact Kd.V_nil _ _ _ _ _ | exact Kd.Q_nil _ _ _ _ _ | exact Kd.S_nil _ _ _ _ _, (kL HB)⟩
         ·rw [if_neg c12] at H
          have c12b0 := eF c12
          have c12b1 := nT c12
          have c14b0 := eq_true (of_decide_eq_true yY : 0 ≤ x6_1)
          by_cases c15 : x6_1 ≤ (wrap64 (x6_1 + t584))
          ·rw [if_pos c15] at H
           have c15b0 := eq_true c15
           have c15b1 : decide (x6_1 ≤ (wrap64 (x6_1 + t584))) = true := decide_eq_true c15
           by_cases c16 : (wrap64 (x6_1 + t584)) ≤ (a0.size : Int)
           ·rw [if_pos c16] at H
            have c16b0 := eq_true c16
            have c16b1 : decide ((wrap64 (x6_1 + t584)) ≤ (a0.size : Int)) = true := decide_eq_true c16
            by_cases c17 : x5_1.length < 4398046511104
            ·rw [if_pos c17] at H
             have LMc17 := am c17
             clear c17
             obtain ⟨y585, hy585⟩ : ∃ y_ : List (S71), y_ = (x5_1 ++ [(⟨t583, a0.extract (x6_1 : Int).toNat ((wrap64 (x6_1 + t584)) : Int).toNat, x6_1⟩ : S71)]) := ⟨_, rfl⟩
             replace H : (lex_Lex.l0 k1 a0 y585 (wrap64 (x6_1 + t584))) = some (r1, r2, r3) := by first | (rw [hy585]; with_reducible exact H) | (have H2_ := (Option.bind_some _ _).symm.trans H; rw [hy585]; with_reducible exact H2_) | (have H2_ := (Option.bind_some _ _).symm.trans H; with_reducible exact H2_) | with_reducible exact H | (rw [hy585]; exact H) | exact H
             have Ny585 := am hy585
             clear hy585
             have H' := am H
             clear H
             have p5 : 0 ≤ (x6_1 : Int) := of_decide_eq_true yY
             have q5 : x6_1 < (a0.size : Int) := of_decide_eq_true yY
             have hx5 := bt_at a0 x6_1
             replace p5 := eq_true p5
             replace q5 := eq_true q5
             have p7 : 0 ≤ (0 : Int) := (by omega)
             have q7 : 0 < (1 : Int) := (by omega)
             have hx7 := bt_at (⟨#[32]⟩ : ByteArray) 0
             have hx7L : ∀ (h : 0 < (⟨#[32]⟩ : ByteArray).size), ((((⟨#[32]⟩ : ByteArray)[0]'h).toNat : Nat) : Int) = bt (⟨#[32]⟩ : ByteArray) 0 := fun h => hx7 h
             replace p7 := eq_true p7
             replace q7 := eq_true q7
             go_wp2_with (first | (go_at_call 65; (with_reducible refine (lex_first.calls _ _ _ _ _ A11.out).mono ?_); rintro e w18 ⟨rfl, hb⟩; replace HO_5 := am (Kd.R_below (rB HO_5) hb); replace HB := am (below_step (kL HB) hb); (try clear hb)) | ((with_reducible refine gate_builtin (b := .append) (xs := #[.tmp 33, .tmp 43]) rfl ?_); at_builtin; refine Kd.R_append k71 (w0 := w) w.heap.size rfl (.tmp 33) (.tmp 43) 46 71 (.agg #[(.int .i64 0), (.string ⟨#[]⟩), (.int .i64 0)]) 32 rfl Try.underlying46 info71 rfl (by decide) (by omega) u5 x5_1 (⟨t583, a0.extract (x6_1 : Int).toNat ((wrap64 (x6_1 + t584)) : Int).toNat, x6_1⟩ : S71) [.int .i64 t583, .string (a0.extract (x6_1 : Int).toNat ((wrap64 (x6_1 + t584)) : Int).toNat), .int .i64 x6_1] (fun _ => True) (fun _ => False) rfl rfl ?aP (fun _ hk => hk.elim) ?aF ?aO ?aB ?aS ?aL ?_; (case aP => exact k71_mkM _ _ _ (⟨t583, a0.extract (x6_1 : Int).toNat ((wrap64 (x6_1 + t584)) : Int).toNat, x6_1⟩ : S71)); (case aB => exact (kL HB)); (case aF => exact (fun _ _ => trivial)); (case aO => exact (rB HO_5)); (case aS => exact (below_size (kL HB))); (case aL => have := LMc17.out; omega); intro v586 w19 ho hb hg hat; rw [← Ny585.out] at ho; have n0_ := am hb; have n1_ := am (ho); clear HB; clear HO_5; have HB := n0_; have HO587 := n1_; clear n0_ n1_; clear ho hb hg hat))
             repeat (go_quiet (first | (go_at_call 65; (with_reducible refine (lex_first.calls _ _ _ _ _ A11.out).mono ?_); rintro e w18 ⟨rfl, hb⟩; replace HO_5 := am (Kd.R_below (rB HO_5) hb); replace HB := am (below_step (kL HB) hb); (try clear hb)) | ((with_reducible refine gate_builtin (b := .append) (xs := #[.tmp 33, .tmp 43]) rfl ?_); at_builtin; refine Kd.R_append k71 (w0 := w) w.heap.size rfl (.tmp 33) (.tmp 43) 46 71 (.agg #[(.int .i64 0), (.string ⟨#[]⟩), (.int .i64 0)]) 32 rfl Try.underlying46 info71 rfl (by decide) (by omega) u5 x5_1 (⟨t583, a0.extract (x6_1 : Int).toNat ((wrap64 (x6_1 + t584)) : Int).toNat, x6_1⟩ : S71) [.int .i64 t583, .string (a0.extract (x6_1 : Int).toNat ((wrap64 (x6_1 + t584)) : Int).toNat), .int .i64 x6_1] (fun _ => True) (fun _ => False) rfl rfl ?aP (fun _ hk => hk.elim) ?aF ?aO ?aB ?aS ?aL ?_; (case aP => exact k71_mkM _ _ _ (⟨t583, a0.extract (x6_1 : Int).toNat ((wrap64 (x6_1 + t584)) : Int).toNat, x6_1⟩ : S71)); (case aB => exact (kL HB)); (case aF => exact (fun _ _ => trivial)); (case aO => exact (rB HO_5)); (case aS => exact (below_size (kL HB))); (case aL => have := LMc17.out; omega); intro v586 w19 ho hb hg hat; rw [← Ny585.out] at ho; have n0_ := am hb; have n1_ := am (ho); clear HB; clear HO_5; have HB := n0_; have HO587 := n1_; clear n0_ n1_; clear ho hb hg hat)); try go_wp2_with (first | (go_at_call 65; (with_reducible refine (lex_first.calls _ _ _ _ _ A11.out).mono ?_); rintro e w18 ⟨rfl, hb⟩; replace HO_5 := am (Kd.R_below (rB HO_5) hb); replace HB := am (below_step (kL HB) hb); (try clear hb)) | ((with_reducible refine gate_builtin (b := .append) (xs := #[.tmp 33, .tmp 43]) rfl ?_); at_builtin; refine Kd.R_append k71 (w0 := w) w.heap.size rfl (.tmp 33) (.tmp 43) 46 71 (.agg #[(.int .i64 0), (.string ⟨#[]⟩), (.int .i64 0)]) 32 rfl Try.underlying46 info71 rfl (by decide) (by omega) u5 x5_1 (⟨t583, a0.extract (x6_1 : Int).toNat ((wrap64 (x6_1 + t584)) : Int).toNat, x6_1⟩ : S71) [.int .i64 t583, .string (a0.extract (x6_1 : Int).toNat ((wrap64 (x6_1 + t584)) : Int).toNat), .int .i64 x6_1] (fun _ => True) (fun _ => False) rfl rfl ?aP (fun _ hk => hk.elim) ?aF ?aO ?aB ?aS ?aL ?_; (case aP => exact k71_mkM _ _ _ (⟨t583, a0.extract (x6_1 : Int).toNat ((wrap64 (x6_1 + t584)) : Int).toNat, x6_1⟩ : S71)); (case aB => exact (kL HB)); (case aF => exact (fun _ _ => trivial)); (case aO => exact (rB HO_5)); (case aS => exact (below_size (kL HB))); (case aL => have := LMc17.out; omega); intro v586 w19 ho hb hg hat; rw [← Ny585.out] at ho; have n0_ := am hb; have n1_ := am (ho); clear HB; clear HO_5; have HB := n0_; have HO587 := n1_; clear n0_ n1_; clear ho hb hg hat)))
             go_roundg k1
             case measure => have := HK1.out; omega
             case rel => exact ⟨(y585), (wrap64 (x6_1 + t584)), yS, H', ⟨by have := HK1.out; omega⟩, ⟨rB HO587⟩, ⟨(kL HB)⟩⟩
            ·rw [if_neg c17] at H
             exact absurd H (by simp)
           ·rw [if_neg c16] at H
            exact absurd H (by simp)
          ·rw [if_neg c15] at H
           exact absurd H (by simp)
        ·rw [if_neg c10] at H
         exact absurd H (by simp)
      ·rw [if_neg c6] at H
       exact absurd H (by simp)
     ·rw [if_neg c4] at H
      exact absurd H (by simp)
    ·rw [if_neg c3] at H
     have c3b0 : decide (x6_1 < (a0.size : Int)) = false := decide_eq_false c3
     clear c3
     simp only [Option.some.injEq, Prod.mk.injEq] at H
     obtain ⟨rfl, rfl, rfl⟩ := H
     go_wp2
     repeat (go_quiet (fail); try go_wp2)
     (try rw [Exit.noGoto_ret])
     go_ret3
     exact ⟨_, yE, rB HO_5, (kL HB)⟩
end Go.Proofs.Ytdelccahgchadaa.P
end
section
namespace Go.Proofs.Ytdelccahgchadaa
open Go.RowKit Go.Lib Go.Proofs.Ytdelccahgchadaa.P Go.Proofs.YtdelccahgchadaaW.PrintWords Go.Proofs.YtdelccahgchadaaW.PrintMore
set_option linter.unusedVariables false
abbrev Bs := List UInt8
abbrev L (s : ByteArray) : Bs := s.data.toList
theorem L_size (s : ByteArray) : s.size = (L s).length := by simp
theorem L_append (a b : ByteArray) : L (a ++ b) = L a ++ L b := by simp
theorem L_ext {a b : ByteArray} (h : L a = L b) : a = b := by
 cases a; cases b; congr 1; exact Array.toList_inj.1 h
theorem L_mk (l : Bs) : L ⟨l.toArray⟩ = l := rfl
theorem L_extract (s : ByteArray) (a b : Nat) : L (s.extract a b) = ((L s).drop a).take (b - a) := Lib.extract_data s a b
theorem L_end (s : ByteArray) (a : Nat) : L (s.extract a s.size) = (L s).drop a := Lib.extract_to_end s a
theorem L_bt (s : ByteArray) (i : Nat) (h : i < (L s).length) : bt s (i : Int) = ((L s)[i].toNat : Int) := by
 unfold bt
 rw [dif_pos (by simpa using h)]
 rfl
theorem toList_L (s : ByteArray) : s.toList = L s := Go.ByteArray.toList_eq s
def trimC (c : UInt8) : Bs → Bs
 | [] => []
 | x :: l => if x = c then l else x :: l
theorem trimC_eq (c : UInt8) (l : Bs) : Lib.trimPrefix l [c] = trimC c l := by
 unfold Lib.trimPrefix Lib.hasPrefix
 cases l with
 | nil => rfl
 | cons x l =>
  by_cases h : x = c
  ·subst h; simp [trimC]
  ·have h2 : ¬ c = x := fun h2 => h h2.symm
   simp [trimC, h, h2]
def runL (p : Int → Bool) (l : Bs) : Nat := (l.takeWhile fun c => p (c.toNat : Int)).length
theorem runN_eq (p : Int → Bool) (s : ByteArray) : Ytdelccahgchadaa.P.runN p s = runL p (L s) := rfl
theorem runL_le (p : Int → Bool) (l : Bs) : runL p l ≤ l.length := by
 unfold runL
 exact List.Sublist.length_le (List.takeWhile_sublist _)
theorem runL_cons (p : Int → Bool) (c : UInt8) (l : Bs) : runL p (c :: l) = if p (c.toNat : Int) = true then runL p l + 1 else 0 := by
 unfold runL
 rw [List.takeWhile_cons]
 split <;> simp
theorem runL_take (p : Int → Bool) (l : Bs) (n : Nat) (h : runL p l ≤ n) : runL p (l.take n) = runL p l := by
 induction l generalizing n with
 | nil => simp
 | cons x l ih =>
  rw [runL_cons] at h
  rw [runL_cons]
  by_cases hp : p (x.toNat : Int) = true
  ·rw [if_pos hp] at h ⊢
   obtain ⟨n, rfl⟩ : ∃ m, n = m + 1 := ⟨n - 1, by omega⟩
   rw [List.take_succ_cons, runL_cons, if_pos hp, ih n (by omega)]
  ·rw [if_neg hp]
   cases n with
   | zero => rfl
   | succ n => rw [List.take_succ_cons, runL_cons, if_neg hp]
theorem runL_all (p : Int → Bool) (l : Bs) : runL p l = l.length ↔ l.all (fun c => p (c.toNat : Int)) = true := by
 induction l with
 | nil => simp [runL]
 | cons x l ih =>
  rw [runL_cons, List.all_cons]
  by_cases hp : p (x.toNat : Int) = true
  ·rw [if_pos hp, hp, Bool.true_and, ← ih, List.length_cons]; omega
  ·rw [if_neg hp]
   have : p (x.toNat : Int) = false := by simpa using hp
   rw [this, Bool.false_and, List.length_cons]
   constructor
   ·intro h; omega
   ·intro h; cases h
def figs (l : Bs) : Bool := l.all isFig
theorem isFig_isD (c : UInt8) : isFig c = isD (c.toNat : Int) := by
 unfold isFig isD
 rw [Bool.eq_iff_iff]
 simp
 omega
theorem figs_run (l : Bs) : figs l = true ↔ runL isD l = l.length := by
 rw [runL_all]
 unfold figs
 have : isFig = fun c : UInt8 => isD (c.toNat : Int) := funext isFig_isD
 rw [this]
def mayB (l : Bs) : Bool :=
 let f := trimC 45 l
 decide (1 ≤ f.length) && decide (f.length ≤ 100) && (!(f.head? == some 48) || l == [48]) && figs f
def numberL (l : Bs) : Option Bs :=
 let f := trimC 95 l
 let n := if f = l then f else 45 :: f
 if figs f && mayB n then some n else none
def signsL : Bs := [43, 45, 42, 37, 33, 38, 124, 60, 62, 61, 126, 44, 35, 94, 36, 63, 64]
def advsL : Bs := [39, 47, 92, 46, 96]
def marksL : Bs := [40, 41, 91, 93, 123, 125, 58]
def firstL (l : Bs) : Nat × Nat :=
 match l with
 | [] => (0, 0)
 | c :: _ =>
  if isLow (c.toNat : Int) = true then (2, runL isWordC l)
  else if isUp (c.toNat : Int) = true then (3, runL isVerbC l)
  else if signsL.contains c then (4, 1)
  else if advsL.contains c then (5, 1)
  else if marksL.contains c then (6, 1)
  else let f := trimC 95 l
   let n := l.length - f.length + runL isD f
   if (numberL (l.take n)).isSome then (1, n) else (0, 0)
structure Tk where
 kind : Nat
 text : Bs
 pos : Nat
deriving DecidableEq
def lexF : Nat → Nat → Bs → Nat ⊕ List Tk
 | 0, p, _ => .inl p
 | _ + 1, _, [] => .inr []
 | f + 1, p, c :: l =>
  if c = 32 then lexF f (p + 1) l
  else
   let k := (firstL (c :: l)).1
   let n := (firstL (c :: l)).2
   if k = 0 then .inl p
   else match lexF f (p + n) ((c :: l).drop n) with
    | .inl e => .inl e
    | .inr ts => .inr (⟨k, (c :: l).take n, p⟩ :: ts)
theorem trimC_len (c : UInt8) (l : Bs) : (trimC c l).length ≤ l.length ∧ l.length ≤ (trimC c l).length + 1 := by
 cases l with
 | nil => simp [trimC]
 | cons x l =>
  by_cases h : x = c
  ·simp [trimC, h]
  ·simp [trimC, h]
theorem runL_pos (p : Int → Bool) (c : UInt8) (l : Bs) (h : p (c.toNat : Int) = true) : 1 ≤ runL p (c :: l) := by
 rw [runL_cons, if_pos h]; omega
theorem low_word {c : Int} (h : isLow c = true) : isWordC c = true := by unfold isWordC; rw [h]; rfl
theorem up_verb {c : Int} (h : isUp c = true) : isVerbC c = true := by unfold isVerbC; rw [h]; simp
theorem numberL_take_pos {l : Bs} {n : Nat} (h : (numberL (l.take n)).isSome = true) : 1 ≤ n := by
 cases n with
 | zero => rw [List.take_zero] at h; revert h; decide
 | succ n => omega
theorem firstL_bounds (c : UInt8) (l : Bs) (h : (firstL (c :: l)).1 ≠ 0) : 1 ≤ (firstL (c :: l)).2 ∧ (firstL (c :: l)).2 ≤ (c :: l).length ∧ (firstL (c :: l)).1 ≤ 6 := by
 unfold firstL at h ⊢
 simp only [] at h ⊢
 by_cases h1 : isLow (c.toNat : Int) = true
 ·rw [if_pos h1]; exact ⟨runL_pos _ _ _ (low_word h1), runL_le _ _, by simp⟩
 ·rw [if_neg h1] at h ⊢
  by_cases h2 : isUp (c.toNat : Int) = true
  ·rw [if_pos h2]; exact ⟨runL_pos _ _ _ (up_verb h2), runL_le _ _, by simp⟩
  ·rw [if_neg h2] at h ⊢
   by_cases h3 : signsL.contains c = true
   ·rw [if_pos h3]; simp
   ·rw [if_neg h3] at h ⊢
    by_cases h4 : advsL.contains c = true
    ·rw [if_pos h4]; simp
    ·rw [if_neg h4] at h ⊢
     by_cases h5 : marksL.contains c = true
     ·rw [if_pos h5]; simp
     ·rw [if_neg h5] at h ⊢
      by_cases h6 : (numberL ((c :: l).take ((c :: l).length - (trimC 95 (c :: l)).length + runL isD (trimC 95 (c :: l))))).isSome = true
      ·rw [if_pos h6]
       have a := trimC_len 95 (c :: l)
       have b := runL_le isD (trimC 95 (c :: l))
       exact ⟨numberL_take_pos h6, by simp only []; omega, by simp⟩
      ·rw [if_neg h6] at h; exact absurd rfl h
end Go.Proofs.Ytdelccahgchadaa
end
section
namespace Go.Proofs.Ytdelccahgchadaa
open Go.RowKit Go.Lib Go.Proofs.Ytdelccahgchadaa.P Go.Proofs.YtdelccahgchadaaW.PrintWords Go.Proofs.YtdelccahgchadaaW.PrintMore
set_option linter.unusedVariables false
deriving instance DecidableEq for Sum
def shiftT (d : Nat) (t : Tk) : Tk := ⟨t.kind, t.text, t.pos + d⟩
theorem lexF_shift (d : Nat) : ∀ (m p : Nat) (l : Bs), lexF m (p + d) l = (match lexF m p l with | .inl e => .inl (e + d) | .inr ts => .inr (ts.map (shiftT d))) := by
 intro m
 induction m with
 | zero => intro p l; rfl
 | succ m ih =>
  intro p l
  cases l with
  | nil => rfl
  | cons c l =>
   simp only [lexF]
   by_cases hc : c = 32
   ·rw [if_pos hc, if_pos hc, show p + d + 1 = (p + 1) + d by omega]; exact ih _ _
   ·rw [if_neg hc, if_neg hc]
    by_cases hk : (firstL (c :: l)).1 = 0
    ·rw [if_pos hk, if_pos hk]
    ·rw [if_neg hk, if_neg hk, show p + d + (firstL (c :: l)).2 = (p + (firstL (c :: l)).2) + d by omega, ih]
     cases lexF m (p + (firstL (c :: l)).2) ((c :: l).drop (firstL (c :: l)).2) with
     | inl e => rfl
     | inr ts => rfl
def lexL (l : Bs) : Nat ⊕ List Tk := lexF (l.length + 1) 0 l
theorem first_cut (c : UInt8) (l : Bs) (h : (firstL (c :: l)).1 ≠ 0) : firstL ((c :: l).take (firstL (c :: l)).2) = firstL (c :: l) := by
 obtain ⟨k, hk⟩ : ∃ k, (firstL (c :: l)).1 = k := ⟨_, rfl⟩
 obtain ⟨n, hn⟩ : ∃ n, (firstL (c :: l)).2 = n := ⟨_, rfl⟩
 have hb := firstL_bounds c l h
 have hkn : firstL (c :: l) = (k, n) := by rw [← hk, ← hn]
 rw [hkn]
 rw [hn] at hb
 simp only []
 obtain ⟨j, rfl⟩ : ∃ j, n = j + 1 := ⟨n - 1, by omega⟩
 rw [List.take_succ_cons]
 unfold firstL at hkn ⊢
 simp only [] at hkn ⊢
 by_cases h1 : isLow (c.toNat : Int) = true
 ·rw [if_pos h1] at hkn ⊢
  injection hkn with e1 e2
  rw [← e1, ← List.take_succ_cons, runL_take _ _ _ (by omega), e2]
 ·rw [if_neg h1] at hkn ⊢
  by_cases h2 : isUp (c.toNat : Int) = true
  ·rw [if_pos h2] at hkn ⊢
   injection hkn with e1 e2
   rw [← e1, ← List.take_succ_cons, runL_take _ _ _ (by omega), e2]
  ·rw [if_neg h2] at hkn ⊢
   by_cases h3 : signsL.contains c = true
   ·rw [if_pos h3] at hkn ⊢; exact hkn
   ·rw [if_neg h3] at hkn ⊢
    by_cases h4 : advsL.contains c = true
    ·rw [if_pos h4] at hkn ⊢; exact hkn
    ·rw [if_neg h4] at hkn ⊢
     by_cases h5 : marksL.contains c = true
     ·rw [if_pos h5] at hkn ⊢; exact hkn
     ·rw [if_neg h5] at hkn ⊢
      by_cases h6 : (numberL ((c :: l).take ((c :: l).length - (trimC 95 (c :: l)).length + runL isD (trimC 95 (c :: l))))).isSome = true
      ·rw [if_pos h6] at hkn
       injection hkn with e1 e2
       rw [e2] at h6
       have hj : j ≤ l.length := by rw [List.length_cons] at hb; omega
       have hr := runL_le isD (trimC 95 (c :: l))
       have key : (c :: l.take j).length - (trimC 95 (c :: l.take j)).length + runL isD (trimC 95 (c :: l.take j)) = j + 1 := by
        by_cases hc : c = 95
        ·have t1 : trimC 95 (c :: l) = l := by simp [trimC, hc]
         have t2 : trimC 95 (c :: l.take j) = l.take j := by simp [trimC, hc]
         rw [t1, List.length_cons] at e2
         rw [t2, List.length_cons, runL_take _ _ _ (by omega), List.length_take, Nat.min_eq_left hj]
         omega
        ·have t1 : trimC 95 (c :: l) = c :: l := by simp [trimC, hc]
         have t2 : trimC 95 (c :: l.take j) = c :: l.take j := by simp [trimC, hc]
         rw [t1] at e2
         rw [t2, ← List.take_succ_cons, runL_take _ _ _ (by omega)]
         omega
       rw [key]
       have e7 : (c :: l.take j).take (j + 1) = (c :: l).take (j + 1) := by
        rw [← List.take_succ_cons, List.take_take, Nat.min_self]
       rw [e7, if_pos h6, ← e1]
      ·rw [if_neg h6] at hkn
       injection hkn with e1 e2
       exact absurd (hk.trans e1.symm) h
def Part (t : Tk) : Prop := firstL t.text = (t.kind, t.text.length) ∧ 1 ≤ t.kind ∧ t.kind ≤ 6 ∧ t.text ≠ [] ∧ t.text.head? ≠ some 32
def Chain (all : Bs) : Nat → List Tk → Prop
 | _, [] => True
 | e, t :: ts => e ≤ t.pos ∧ t.pos + t.text.length ≤ all.length ∧ (all.drop t.pos).take t.text.length = t.text ∧ Part t ∧ Chain all (t.pos + t.text.length) ts
theorem chain_le {all : Bs} {e e' : Nat} {ts : List Tk} (h : Chain all e ts) (he : e' ≤ e) : Chain all e' ts := by
 cases ts with
 | nil => trivial
 | cons t ts => exact ⟨Nat.le_trans he h.1, h.2⟩
theorem lexF_chain (all : Bs) : ∀ (m p : Nat), p ≤ all.length → all.length - p < m → (match lexF m p (all.drop p) with | .inl e => e ≤ all.length | .inr ts => Chain all p ts ∧ ts.length ≤ all.length - p ∧ (ts.map (·.text.length)).sum ≤ all.length - p) := by
 intro m
 induction m with
 | zero => intro p _ h; omega
 | succ m ih =>
  intro p hp hm
  cases hl : all.drop p with
  | nil => simp only [lexF]; exact ⟨trivial, by simp, by simp⟩
  | cons c l =>
   have hlen : all.length - p = l.length + 1 := by rw [← List.length_drop, hl, List.length_cons]
   simp only [lexF]
   by_cases hc : c = 32
   ·rw [if_pos hc]
    have hd : all.drop (p + 1) = l := by rw [← List.drop_drop, hl]; rfl
    have := ih (p + 1) (by omega) (by omega)
    rw [hd] at this
    revert this
    cases lexF m (p + 1) l with
    | inl e => exact id
    | inr ts => simp only []; exact fun h => ⟨chain_le h.1 (by omega), by omega, by omega⟩
   ·rw [if_neg hc]
    by_cases hk : (firstL (c :: l)).1 = 0
    ·rw [if_pos hk]; exact hp
    ·rw [if_neg hk]
     have hb := firstL_bounds c l hk
     have hcut := first_cut c l hk
     obtain ⟨k, hk'⟩ : ∃ k, (firstL (c :: l)).1 = k := ⟨_, rfl⟩
     obtain ⟨n, hn⟩ : ∃ n, (firstL (c :: l)).2 = n := ⟨_, rfl⟩
     have hkn : firstL (c :: l) = (k, n) := by rw [← hk', ← hn]
     rw [hkn] at hb hcut ⊢
     rw [hkn] at hk
     simp only [List.length_cons] at hb hcut hk ⊢
     have hd : all.drop (p + n) = (c :: l).drop n := by rw [← List.drop_drop, hl]
     have := ih (p + n) (by omega) (by omega)
     rw [hd] at this
     have htl : ((c :: l).take n).length = n := by rw [List.length_take, List.length_cons]; omega
     revert this
     cases lexF m (p + n) ((c :: l).drop n) with
     | inl e => exact id
     | inr ts =>
      simp only []
      intro h
      refine ⟨⟨Nat.le_refl _, ?_, ?_, ⟨?_, ?_, hb.2.2, ?_, ?_⟩, ?_⟩, ?_, ?_⟩
      ·simp only [htl]; omega
      ·simp only [htl, hl]
      ·simp only [htl]; exact hcut
      ·simp only []; omega
      ·simp only []; intro h0; rw [h0] at htl; simp at htl; omega
      ·simp only []
       obtain ⟨j, rfl⟩ : ∃ j, n = j + 1 := ⟨n - 1, by omega⟩
       rw [List.take_succ_cons]
       simpa using hc
      ·simp only [htl]; exact h.1
      ·rw [List.length_cons]; omega
      ·rw [List.map_cons, List.sum_cons, htl]; omega
end Go.Proofs.Ytdelccahgchadaa
end
section
namespace Go.Proofs.Ytdelccahgchadaa
open Go.RowKit Go.Proofs.YtdelccahgchadaaW.PrintWords Go.Proofs.YtdelccahgchadaaW.PrintMore
theorem wrap_id {a : Int} (h : -9223372036854775808 ≤ a) (h2 : a ≤ 9223372036854775807) : wrap64 a = a := by unfold wrap64; omega
end Go.Proofs.Ytdelccahgchadaa
end
section
namespace Go.Proofs.Ytdelccahgchadaa
open Go.RowKit Go.Lib Go.Proofs.Ytdelccahgchadaa.P Go.Proofs.YtdelccahgchadaaW.PrintWords Go.Proofs.YtdelccahgchadaaW.PrintMore
set_option linter.unusedVariables false
abbrev mkB (l : Bs) : ByteArray := ⟨l.toArray⟩
theorem mkB_L (s : ByteArray) : mkB (L s) = s := L_ext rfl
theorem trimP (s : ByteArray) (c : UInt8) : strings_TrimPrefix.f s ⟨#[c]⟩ = some (mkB (trimC c (L s))) := by
 unfold strings_TrimPrefix.f
 have : (⟨#[c]⟩ : ByteArray).data.toList = [c] := rfl
 rw [this, trimC_eq]
theorem mkB_size (l : Bs) : (mkB l).size = l.length := by simp [ByteArray.size]
theorem bt_head (c : UInt8) (l : Bs) : bt (mkB (c :: l)) 0 = (c.toNat : Int) := by
 have := L_bt (mkB (c :: l)) 0 (by simp)
 exact this
theorem allFig_L (s : ByteArray) : allFig s = figs (L s) := rfl
theorem byte_iff (c d : UInt8) : ((c.toNat : Int) = (d.toNat : Int)) ↔ c = d := by
 constructor
 ·intro h; exact UInt8.toNat_inj.1 (by omega)
 ·rintro rfl; rfl
theorem May_eq (s : ByteArray) : num_May.f s = some (mayB (L s)) := by
 unfold num_May.f mayB
 rw [trimP]
 simp only [Option.bind_some, mkB_size]
 obtain ⟨f, hf⟩ : ∃ f, trimC 45 (L s) = f := ⟨_, rfl⟩
 rw [hf]
 cases f with
 | nil => simp
 | cons c f =>
  rw [if_neg (by rw [List.length_cons]; omega)]
  by_cases h : (c :: f).length ≤ 100
  ·rw [if_neg (by omega), if_pos (by rw [List.length_cons]; omega), bt_head]
   unfold ContainsFunc_May.f
   rw [allFig_L, L_mk]
   have e1 : decide (1 ≤ (c :: f).length) = true := by simp
   have e2 : decide ((c :: f).length ≤ 100) = true := by simpa using h
   rw [e1, e2]
   by_cases hc : c = 48
   ·subst hc
    rw [if_pos (by decide), toList_L]
    by_cases h0 : L s = [48]
    ·rw [if_pos h0, h0]; simp
    ·rw [if_neg h0]
     have : (L s == [48]) = false := by simpa using h0
     rw [this]; simp
   ·have hne : ¬ ((c.toNat : Int) = 48) := fun h' => hc ((byte_iff c 48).1 h')
    rw [if_neg hne]
    have : ((c :: f).head? == some 48) = false := by simpa using hc
    rw [this]; simp
  ·rw [if_pos (by omega)]
   have e2 : decide ((c :: f).length ≤ 100) = false := by simpa using h
   rw [e2]; simp
def outN (o : Option Bs) : ByteArray × Bool := match o with | some n => (mkB n, true) | none => (⟨#[]⟩, false)
theorem number_eq (s : ByteArray) (hs : s.size ≤ 140737488351232) (k : Nat) (hk : 1 ≤ k) : lex_Number.f k s = some (outN (numberL (L s))) := by
 obtain ⟨k, rfl⟩ : ∃ j, k = j + 1 := ⟨k - 1, by omega⟩
 unfold lex_Number.f numberL
 rw [trimP]
 simp only [Option.bind_some, mkB_size, toList_L, L_mk]
 obtain ⟨f, hf⟩ : ∃ f, trimC 95 (L s) = f := ⟨_, rfl⟩
 have hl := trimC_len 95 (L s)
 rw [← L_size] at hl
 rw [hf] at hl ⊢
 have hj : ∀ n : Bs, lex_Number.j0 (k + 1) (mkB f) (mkB n) = some (outN (if figs f && mayB n then some n else none)) := by
  intro n
  simp only [lex_Number.j0, run_figure.f, runO, May_eq, L_mk, mkB_size]
  rw [if_pos (by omega), runN_eq, L_mk]
  simp only [Option.bind_some]
  by_cases h : figs f = true
  ·rw [h, if_pos (by rw [(figs_run f).1 h])]
   cases mayB n with
   | true => rfl
   | false => rfl
  ·rw [if_neg (fun h' => h ((figs_run f).2 (by omega)))]
   have : figs f = false := by simpa using h
   rw [this]; rfl
 by_cases h : f = L s
 ·rw [if_pos h, if_pos h, hj]
 ·rw [if_neg h, if_neg h, if_pos (by omega)]
  have e : (⟨#[45]⟩ : ByteArray) ++ mkB f = mkB (45 :: f) := L_ext (by rw [L_append]; rfl)
  rw [e, hj]
theorem indexB_iff (l : Bs) (c : UInt8) : ∃ t, strings_IndexByte.f (mkB l) (c.toNat : Int) = some t ∧ (t ≥ 0 ↔ l.contains c = true) := by
 refine ⟨_, rfl, ?_⟩
 have e : ((c.toNat : Int).toNat.toUInt8) = c := Lib.byte_back' c
 have e2 : (mkB l).data.toList = l := rfl
 rw [e, e2, Lib.contains_iff_indexByte]
 simp
theorem first_eq (s : ByteArray) (h0 : 0 < s.size) (hs : s.size ≤ 256) (k : Nat) (hk : 1 ≤ k) : lex_first.f k s = some (((firstL (L s)).1 : Int), ((firstL (L s)).2 : Int)) := by
 obtain ⟨l, hl⟩ : ∃ l, L s = l := ⟨_, rfl⟩
 obtain rfl : s = mkB l := by rw [← hl, mkB_L]
 clear hl
 rw [mkB_size] at h0 hs
 cases l with
 | nil => simp at h0
 | cons c l =>
  unfold lex_first.f firstL
  simp only [L_mk]
  rw [if_pos (by rw [mkB_size]; omega), bt_head]
  have hS : lex_small.f (c.toNat : Int) = some (isLow (c.toNat : Int)) := by
   unfold lex_small.f isLow
   by_cases h : (c.toNat : Int) ≥ 97
   ·rw [if_pos h]; congr 1; rw [Bool.eq_iff_iff, decide_eq_true_iff, decide_eq_true_iff]; omega
   ·rw [if_neg h]; congr 1; rw [Bool.eq_iff_iff, decide_eq_true_iff]; simp; omega
  have hG : lex_great.f (c.toNat : Int) = some (isUp (c.toNat : Int)) := by
   unfold lex_great.f isUp
   by_cases h : (c.toNat : Int) ≥ 65
   ·rw [if_pos h]; congr 1; rw [Bool.eq_iff_iff, decide_eq_true_iff, decide_eq_true_iff]; omega
   ·rw [if_neg h]; congr 1; rw [Bool.eq_iff_iff, decide_eq_true_iff]; simp; omega
  rw [hS, hG]
  simp only [Option.bind_some]
  by_cases h1 : isLow (c.toNat : Int) = true
  ·rw [if_pos h1, if_pos h1]
   simp only [run_word.f, runO]
   rw [if_pos (by rw [mkB_size]; omega)]
   rfl
  rw [if_neg h1, if_neg h1]
  by_cases h2 : isUp (c.toNat : Int) = true
  ·rw [if_pos h2, if_pos h2]
   simp only [run_verb.f, runO]
   rw [if_pos (by rw [mkB_size]; omega)]
   rfl
  rw [if_neg h2, if_neg h2]
  obtain ⟨t3, e3, i3⟩ := indexB_iff signsL c
  obtain ⟨t4, e4, i4⟩ := indexB_iff advsL c
  obtain ⟨t5, e5, i5⟩ := indexB_iff marksL c
  have e3' : strings_IndexByte.f (⟨#[43, 45, 42, 37, 33, 38, 124, 60, 62, 61, 126, 44, 35, 94, 36, 63, 64]⟩ : ByteArray) (c.toNat : Int) = some t3 := e3
  have e4' : strings_IndexByte.f (⟨#[39, 47, 92, 46, 96]⟩ : ByteArray) (c.toNat : Int) = some t4 := e4
  have e5' : strings_IndexByte.f (⟨#[40, 41, 91, 93, 123, 125, 58]⟩ : ByteArray) (c.toNat : Int) = some t5 := e5
  rw [e3', e4', e5', trimP]
  simp only [Option.bind_some, L_mk]
  by_cases h3 : t3 ≥ 0
  ·rw [if_pos h3, if_pos (i3.1 h3)]; rfl
  rw [if_neg h3, if_neg (fun h => h3 (i3.2 h))]
  by_cases h4 : t4 ≥ 0
  ·rw [if_pos h4, if_pos (i4.1 h4)]; rfl
  rw [if_neg h4, if_neg (fun h => h4 (i4.2 h))]
  by_cases h5 : t5 ≥ 0
  ·rw [if_pos h5, if_pos (i5.1 h5)]; rfl
  rw [if_neg h5, if_neg (fun h => h5 (i5.2 h))]
  have hl := trimC_len 95 (c :: l)
  obtain ⟨f, hf⟩ : ∃ f, trimC 95 (c :: l) = f := ⟨_, rfl⟩
  rw [hf] at hl ⊢
  have hr := runL_le isD f
  have er : run_figure.f (mkB f) = some (runL isD f : Int) := by
   simp only [run_figure.f, runO]
   rw [if_pos (by rw [mkB_size]; omega)]
   rfl
  rw [er]
  simp only [Option.bind_some, mkB_size]
  obtain ⟨n, hn⟩ : ∃ n, (c :: l).length - f.length + runL isD f = n := ⟨_, rfl⟩
  have hw : wrap64 (wrap64 (((c :: l).length : Int) - (f.length : Int)) + (runL isD f : Int)) = (n : Int) := by
   rw [wrap_id (a := ((c :: l).length : Int) - (f.length : Int)) (by omega) (by omega), wrap_id (by omega) (by omega)]; omega
  rw [hw, if_pos (by omega), if_pos (by omega)]
  have hx : (mkB (c :: l)).extract 0 (n : Int).toNat = mkB ((c :: l).take n) := L_ext (by rw [L_extract]; simp [L_mk])
  rw [hx, number_eq _ (by rw [mkB_size, List.length_take]; omega) k hk, L_mk, hn]
  simp only [Option.bind_some]
  cases hN : numberL ((c :: l).take n) with
  | none => rfl
  | some m => rfl
def encT (t : Tk) : S71 := ⟨(t.kind : Int), mkB t.text, (t.pos : Int)⟩
def outL (o : Nat ⊕ List Tk) : List S71 × Int × Int := match o with | .inl e => ([], (e : Int), 2) | .inr ts => (ts.map encT, 0, 0)
theorem lex_l0 (s : ByteArray) (hs : s.size ≤ 256) : ∀ (m k p : Nat) (acc : List S71), p ≤ s.size → s.size - p < m → s.size - p + 1 < k → acc.length ≤ p →
  lex_Lex.l0 k s acc (p : Int) = some (match lexF m p ((L s).drop p) with | .inl e => ([], (e : Int), 2) | .inr ts => (acc ++ ts.map encT, 0, 0)) := by
 intro m
 induction m with
 | zero => intro k p acc _ h; omega
 | succ m ih =>
  intro k p acc hp hm hk ha
  obtain ⟨k, rfl⟩ : ∃ j, k = j + 1 := ⟨k - 1, by omega⟩
  have hlen : ((L s).drop p).length = s.size - p := by rw [List.length_drop, ← L_size]
  simp only [lex_Lex.l0]
  cases hl : (L s).drop p with
  | nil =>
   rw [hl, List.length_nil] at hlen
   rw [if_neg (by omega)]
   simp [lexF]
  | cons c l =>
   rw [hl, List.length_cons] at hlen
   have hpl : p < (L s).length := by rw [← L_size]; omega
   have hg : (L s)[p] = c := by
    have := List.drop_eq_getElem_cons hpl
    rw [hl] at this
    injection this with h1 h2
    exact h1.symm
   rw [if_pos (by omega), if_pos (by omega), if_pos (by decide), L_bt s p hpl, hg]
   have e32 : bt (⟨#[32]⟩ : ByteArray) 0 = ((32 : UInt8).toNat : Int) := by decide
   rw [e32]
   simp only [lexF]
   by_cases hc : c = 32
   ·rw [if_pos (by rw [hc]), if_pos hc, wrap_id (by omega) (by omega)]
    have := ih k (p + 1) acc (by omega) (by omega) (by omega) (by omega)
    have hd : (L s).drop (p + 1) = l := by rw [← List.drop_drop, hl]; rfl
    rw [hd] at this
    exact_mod_cast this
   ·rw [if_neg (fun h => hc ((byte_iff c 32).1 h)), if_neg hc, if_pos (by omega)]
    have hx : s.extract (p : Int).toNat s.size = mkB (c :: l) := L_ext (by rw [L_end, L_mk, Int.toNat_natCast, hl])
    rw [hx, first_eq _ (by rw [mkB_size, List.length_cons]; omega) (by rw [mkB_size, List.length_cons]; omega) k (by omega), L_mk]
    simp only [Option.bind_some]
    by_cases h0 : (firstL (c :: l)).1 = 0
    ·rw [if_pos (by omega), if_pos h0]
    ·have hb := firstL_bounds c l h0
     rw [if_neg (by omega), if_neg h0]
     obtain ⟨kk, hkk⟩ : ∃ kk, (firstL (c :: l)).1 = kk := ⟨_, rfl⟩
     obtain ⟨n, hn⟩ : ∃ n, (firstL (c :: l)).2 = n := ⟨_, rfl⟩
     rw [hkk, hn] at hb ⊢
     rw [List.length_cons] at hb
     have hw : wrap64 ((p : Int) + (n : Int)) = ((p + n : Nat) : Int) := by rw [wrap_id (by omega) (by omega)]; omega
     have hacc : acc.length < 4398046511104 := Nat.lt_of_le_of_lt ha (Nat.lt_of_le_of_lt hp (Nat.lt_of_le_of_lt hs (by decide)))
     rw [hw]
     clear hw
     rw [if_pos (by omega), if_pos (by omega), if_pos hacc]
     have hy : s.extract (p : Int).toNat ((p + n : Nat) : Int).toNat = mkB ((c :: l).take n) := L_ext (by
      rw [L_extract, L_mk, Int.toNat_natCast, Int.toNat_natCast, hl, Nat.add_sub_cancel_left])
     rw [hy]
     have hd : (L s).drop (p + n) = (c :: l).drop n := by rw [← List.drop_drop, hl]
     have := ih k (p + n) (acc ++ [(⟨(kk : Int), mkB ((c :: l).take n), (p : Int)⟩ : S71)]) (by omega) (by omega) (by omega) (by rw [List.length_append, List.length_singleton]; omega)
     rw [hd] at this
     rw [this]
     cases lexF m (p + n) ((c :: l).drop n) with
     | inl e => rfl
     | inr ts => simp [encT]
theorem lex_eq (s : ByteArray) (hs : s.size ≤ 256) (k : Nat) (hk : 258 < k) : lex_Lex.f k s = some (outL (lexL (L s))) := by
 unfold lex_Lex.f lexL
 rw [if_neg (by omega)]
 have := lex_l0 s hs (s.size + 1) k 0 [] (by omega) (by omega) (by omega) (by simp)
 rw [List.drop_zero] at this
 have e : ((0 : Nat) : Int) = 0 := rfl
 rw [e] at this
 rw [this, ← L_size]
 cases lexF (s.size + 1) 0 (L s) with
 | inl e => rfl
 | inr ts => rfl
theorem lex_big (s : ByteArray) (hs : 256 < s.size) (k : Nat) : lex_Lex.f k s = some ([], 0, 8) := by
 unfold lex_Lex.f
 rw [if_pos (by omega)]
end Go.Proofs.Ytdelccahgchadaa
end
section
namespace Go.Proofs.Ytdelccahgchadaa
open Go.RowKit Go.Lib Go.Proofs.Ytdelccahgchadaa.P Go.Proofs.YtdelccahgchadaaW.PrintWords Go.Proofs.YtdelccahgchadaaW.PrintMore
set_option linter.unusedVariables false
abbrev Tt := S71
abbrev Nn := S25
abbrev PSt := List Tt × Bool
abbrev ES := PSt → List Nn × PSt
def kd0 (st : PSt) : Int := if st.2 = true then 0 else match st.1 with | t :: _ => t.f0 | [] => 0
def tx0 (st : PSt) : ByteArray := if st.2 = true then ⟨#[]⟩ else match st.1 with | t :: _ => t.f1 | [] => ⟨#[]⟩
def isM (m : UInt8) (st : PSt) : Bool := kd0 st == 6 && L (tx0 st) == [m]
def verbal (st : PSt) : Bool := kd0 st == 4 || kd0 st == 3 || isM 123 st
def next (st : PSt) : PSt := (st.1.tail, st.2)
def markS (m : UInt8) (st : PSt) : PSt := if isM m st = true then next st else (st.1, true)
def numS (s : ByteArray) : ByteArray := (outN (numberL (L s))).1
def litS : List ByteArray → List Tt → List ByteArray × PSt
 | acc, [] => (acc, [], false)
 | acc, t :: r => if t.f0 = 1 then (if acc.length = 100 then (acc, t :: r, true) else litS (acc ++ [numS t.f1]) r) else (acc, t :: r, false)
def nd0 (k : Int) : Nn := ⟨k, ⟨#[]⟩, ⟨#[]⟩, ⟨#[]⟩, []⟩
def advOk (advs : Bs) (t : ByteArray) : Bool := match L t with | [c] => advs.contains c | _ => false
def verbS (E : ES) (kind : Int) (advs : Bs) (st : PSt) : Nn × List Nn × PSt :=
 let b : List Nn × PSt := if tx0 st = ⟨#[123]⟩ then ((E (next st)).1, markS 125 (E (next st)).2) else ([], next st)
 if kd0 b.2 = 5 then (⟨kind, tx0 st, tx0 b.2, ⟨#[]⟩, []⟩, b.1, if advOk advs (tx0 b.2) = true then next b.2 else (b.2.1, true))
 else (⟨kind, tx0 st, ⟨#[]⟩, ⟨#[]⟩, []⟩, b.1, b.2)
def atomS (E : ES) (st : PSt) : List Nn × PSt :=
 if kd0 st = 1 then ([⟨1, ⟨#[]⟩, ⟨#[]⟩, ⟨#[]⟩, (litS [] st.1).1⟩], (litS [] st.1).2)
 else if kd0 st = 2 then ([⟨2, ⟨#[]⟩, ⟨#[]⟩, tx0 st, []⟩], next st)
 else if (markS 40 st).2 = true then ([], markS 40 st)
 else ((E (markS 40 st)).1, markS 41 (E (markS 40 st)).2)
def idxS (E : ES) : Nat → List Nn → PSt → List Nn × PSt
 | 0, l, st => (l, st)
 | n + 1, l, st => if isM 91 st = true then idxS E n (nd0 8 :: (l ++ (E (next st)).1)) (markS 93 (E (next st)).2) else (l, st)
def termS (E : ES) (st : PSt) : List Nn × PSt := idxS E (atomS E st).2.1.length (atomS E st).1 (atomS E st).2
def oneB : Bs := [39, 47, 92, 96]
def twoB : Bs := [39, 46]
def exprV (E : ES) (v : Nn × List Nn × PSt) (left : List Nn) : List Nn × PSt := (v.1 :: (v.2.1 ++ (left ++ (E v.2.2).1)), (E v.2.2).2)
def exprB (E : ES) (st : PSt) : List Nn × PSt :=
 if verbal st = true then exprV E (verbS E 3 oneB st) []
 else if verbal (termS E st).2 = true then exprV E (verbS E 4 twoB (termS E st).2) (termS E st).1
 else termS E st
def exprS : Nat → ES
 | 0 => fun st => ([], st.1, true)
 | n + 1 => exprB (exprS n)
def meas (st : PSt) : Nat := if st.2 = true then 0 else st.1.length
def Fine (st : PSt) (r : List Nn × PSt) : Prop := r.2.1 <:+ st.1 ∧ r.1.length + r.2.1.length ≤ st.1.length ∧ (st.2 = true → r.2.2 = true)
def Taken (a b : PSt) : Prop := b.1 <:+ a.1 ∧ (a.2 = true → b.2 = true)
theorem Taken.refl (a : PSt) : Taken a a := ⟨List.suffix_refl _, fun h => h⟩
theorem Taken.trans {a b c : PSt} (h : Taken a b) (k : Taken b c) : Taken a c := ⟨k.1.trans h.1, fun e => k.2 (h.2 e)⟩
theorem kd0_pos {st : PSt} (h : kd0 st ≠ 0) : st.2 = false ∧ ∃ t r, st.1 = t :: r ∧ kd0 st = t.f0 ∧ tx0 st = t.f1 := by
 obtain ⟨l, b⟩ := st
 unfold kd0 at h
 cases b with
 | true => rw [if_pos rfl] at h; exact absurd rfl h
 | false =>
  rw [if_neg (fun e : (l, false).2 = true => by cases e)] at h
  cases l with
  | nil => exact absurd rfl h
  | cons t r => exact ⟨rfl, t, r, rfl, rfl, rfl⟩
theorem isM_kd {m : UInt8} {st : PSt} (h : isM m st = true) : kd0 st = 6 := by
 unfold isM at h
 rw [Bool.and_eq_true, beq_iff_eq] at h
 exact h.1
theorem verbal_kd {st : PSt} (h : verbal st = true) : kd0 st = 4 ∨ kd0 st = 3 ∨ kd0 st = 6 := by
 unfold verbal at h
 rw [Bool.or_eq_true, Bool.or_eq_true, beq_iff_eq, beq_iff_eq] at h
 rcases h with (h | h) | h
 ·exact .inl h
 ·exact .inr (.inl h)
 ·exact .inr (.inr (isM_kd h))
theorem kd0_taken {st : PSt} (h : kd0 st ≠ 0) : Taken st (next st) ∧ (next st).1.length + 1 = st.1.length := by
 obtain ⟨hb, t, r, h1, _, _⟩ := kd0_pos h
 unfold next Taken
 rw [h1]
 exact ⟨⟨⟨[t], rfl⟩, fun e => e⟩, rfl⟩
theorem markS_taken (m : UInt8) (st : PSt) : Taken st (markS m st) := by
 unfold markS
 by_cases h : isM m st = true
 ·rw [if_pos h]; exact (kd0_taken (by rw [isM_kd h]; decide)).1
 ·rw [if_neg h]; exact ⟨List.suffix_refl _, fun _ => rfl⟩
theorem Taken.len {a b : PSt} (h : Taken a b) : b.1.length ≤ a.1.length := h.1.length_le
theorem Fine.taken {a : PSt} {r : List Nn × PSt} (h : Fine a r) : Taken a r.2 := ⟨h.1, h.2.2⟩
theorem litS_fine : ∀ (l : List Tt) (acc : List ByteArray), (litS acc l).2.1 <:+ l ∧ (litS acc l).1.length = acc.length + (l.length - (litS acc l).2.1.length) ∧ (acc.length ≤ 100 → (litS acc l).1.length ≤ 100) := by
 intro l
 induction l with
 | nil => intro acc; simp only [litS]; exact ⟨List.suffix_refl _, by simp, fun h => h⟩
 | cons t r ih =>
  intro acc
  simp only [litS]
  by_cases h : t.f0 = 1
  ·rw [if_pos h]
   by_cases h2 : acc.length = 100
   ·rw [if_pos h2]; exact ⟨List.suffix_refl _, by simp, fun h => h⟩
   ·rw [if_neg h2]
    have := ih (acc ++ [numS t.f1])
    have hl := this.1.length_le
    rw [List.length_append, List.length_singleton] at this
    exact ⟨this.1.trans ⟨[t], rfl⟩, by rw [List.length_cons]; omega, fun h => this.2.2 (by omega)⟩
  ·rw [if_neg h]; exact ⟨List.suffix_refl _, by simp, fun h => h⟩
def GoodE (E : ES) (n : Nat) : Prop := ∀ st, meas st < n → Fine st (E st)
theorem meas_next {st : PSt} {n : Nat} (h : kd0 st ≠ 0) (hm : meas st < n + 1) : meas (next st) < n ∧ st.2 = false ∧ meas st = st.1.length := by
 obtain ⟨hb, t, r, h1, _, _⟩ := kd0_pos h
 have h2 : meas st = st.1.length := by unfold meas; rw [hb]; rfl
 have h3 : (next st).1.length + 1 = st.1.length := (kd0_taken h).2
 have h4 : meas (next st) = (next st).1.length := by
  unfold meas
  have : (next st).2 = false := hb
  rw [this]; rfl
 exact ⟨by omega, hb, h2⟩
theorem meas_le (st : PSt) : meas st ≤ st.1.length := by unfold meas; split <;> omega
theorem meas_taken {a b : PSt} {n : Nat} (h : Taken a b) (hm : meas a < n) : meas b < n := by
 unfold meas at hm ⊢
 have hl := h.len
 by_cases hb : b.2 = true
 ·rw [if_pos hb]; omega
 ·rw [if_neg hb]
  rw [if_neg (fun e => hb (h.2 e))] at hm
  omega
theorem verbS_fine (E : ES) (n : Nat) (hE : GoodE E n) (kind : Int) (advs : Bs) (st : PSt) (hv : verbal st = true) (hm : meas st < n + 1) :
  Taken st (verbS E kind advs st).2.2 ∧ (verbS E kind advs st).2.1.length + 1 + (verbS E kind advs st).2.2.1.length ≤ st.1.length ∧ meas (verbS E kind advs st).2.2 < n := by
 have hk : kd0 st ≠ 0 := by rcases verbal_kd hv with h | h | h <;> rw [h] <;> decide
 obtain ⟨hn, hb, hms⟩ := meas_next hk hm
 obtain ⟨ht, hl⟩ := kd0_taken hk
 unfold verbS
 obtain ⟨b, hbd⟩ : ∃ b : List Nn × PSt, b = (if tx0 st = ⟨#[123]⟩ then ((E (next st)).1, markS 125 (E (next st)).2) else ([], next st)) := ⟨_, rfl⟩
 simp only []
 rw [← hbd]
 have hb2 : Taken (next st) b.2 ∧ b.1.length + b.2.1.length ≤ (next st).1.length := by
  rw [hbd]
  by_cases h : tx0 st = ⟨#[123]⟩
  ·rw [if_pos h]
   have hf := hE _ hn
   have hmk := markS_taken 125 (E (next st)).2
   have := hmk.len
   exact ⟨hf.taken.trans hmk, by have := hf.2.1; simp only []; omega⟩
  ·rw [if_neg h]; exact ⟨Taken.refl _, by simp⟩
 have hmb : meas b.2 < n := meas_taken hb2.1 hn
 by_cases h5 : kd0 b.2 = 5
 ·rw [if_pos h5]
  have hkb : kd0 b.2 ≠ 0 := by rw [h5]; decide
  obtain ⟨ht2, hl2⟩ := kd0_taken hkb
  simp only []
  by_cases ha : advOk advs (tx0 b.2) = true
  ·rw [if_pos ha]
   exact ⟨(ht.trans hb2.1).trans ht2, by have := hb2.2; omega, meas_taken ht2 hmb⟩
  ·rw [if_neg ha]
   have ht3 : Taken b.2 (b.2.1, true) := ⟨List.suffix_refl _, fun _ => rfl⟩
   exact ⟨(ht.trans hb2.1).trans ht3, by have := hb2.2; simp only []; omega, meas_taken ht3 hmb⟩
 ·rw [if_neg h5]
  exact ⟨ht.trans hb2.1, by have := hb2.2; simp only []; omega, hmb⟩
theorem atomS_fine (E : ES) (n : Nat) (hE : GoodE E n) (st : PSt) (hm : meas st < n + 1) : Fine st (atomS E st) ∧ (meas (atomS E st).2 < n ∨ (atomS E st).2.2 = true ∨ kd0 (atomS E st).2 ≠ 1) := by
 unfold atomS
 by_cases h1 : kd0 st = 1
 ·rw [if_pos h1]
  have hk : kd0 st ≠ 0 := by rw [h1]; decide
  obtain ⟨hn, hb, hms⟩ := meas_next hk hm
  obtain ⟨_, t, r, e1, e2, e3⟩ := kd0_pos hk
  have hf := litS_fine st.1 []
  have hl := hf.1.length_le
  have h0 : (litS [] st.1).2.1.length + 1 ≤ st.1.length := by
   rw [e1]
   have e4 : litS [] (t :: r) = litS [numS t.f1] r := by
    simp only [litS]
    rw [if_pos (by rw [← e2]; exact h1), if_neg (by simp)]
    rfl
   rw [e4]
   have := (litS_fine r [numS t.f1]).1.length_le
   rw [List.length_cons]; omega
  refine ⟨⟨hf.1, by simp only [List.length_singleton]; omega, fun h => by rw [hb] at h; cases h⟩, .inl ?_⟩
  have := meas_le (litS [] st.1).2
  simp only []
  omega
 ·rw [if_neg h1]
  by_cases h2 : kd0 st = 2
  ·rw [if_pos h2]
   have hk : kd0 st ≠ 0 := by rw [h2]; decide
   obtain ⟨hn, hb, hms⟩ := meas_next hk hm
   obtain ⟨ht, hl⟩ := kd0_taken hk
   exact ⟨⟨ht.1, by simp only [List.length_singleton]; omega, ht.2⟩, .inl hn⟩
  ·rw [if_neg h2]
   by_cases h3 : (markS 40 st).2 = true
   ·rw [if_pos h3]
    have ht := markS_taken 40 st
    exact ⟨⟨ht.1, by have := ht.len; simp only [List.length_nil]; omega, ht.2⟩, .inr (.inl h3)⟩
   ·rw [if_neg h3]
    have hM : isM 40 st = true := by
     unfold markS at h3
     by_cases h : isM 40 st = true
     ·exact h
     ·rw [if_neg h] at h3; exact absurd rfl h3
    have hk : kd0 st ≠ 0 := by rw [isM_kd hM]; decide
    obtain ⟨hn, hb, hms⟩ := meas_next hk hm
    have he : markS 40 st = next st := by unfold markS; rw [if_pos hM]
    obtain ⟨ht, hl⟩ := kd0_taken hk
    rw [he]
    have hf := hE _ hn
    have hmk := markS_taken 41 (E (next st)).2
    have hall := (ht.trans hf.taken).trans hmk
    refine ⟨⟨hall.1, ?_, hall.2⟩, .inl (meas_taken (hf.taken.trans hmk) hn)⟩
    have := hmk.len
    have := hf.2.1
    simp only []
    omega
theorem idxS_fine (E : ES) (n : Nat) (hE : GoodE E n) : ∀ (m : Nat) (l : List Nn) (st : PSt), meas st < n + 1 → Taken st (idxS E m l st).2 ∧ (idxS E m l st).1.length + (idxS E m l st).2.1.length ≤ l.length + st.1.length := by
 intro m
 induction m with
 | zero => intro l st hm; exact ⟨Taken.refl _, Nat.le_refl _⟩
 | succ m ih =>
  intro l st hm
  simp only [idxS]
  by_cases h : isM 91 st = true
  ·rw [if_pos h]
   have hk : kd0 st ≠ 0 := by rw [isM_kd h]; decide
   obtain ⟨hn, hb, hms⟩ := meas_next hk hm
   obtain ⟨ht, hl⟩ := kd0_taken hk
   have hf := hE _ hn
   have hmk := markS_taken 93 (E (next st)).2
   have hr := ih (nd0 8 :: (l ++ (E (next st)).1)) (markS 93 (E (next st)).2) (by have := meas_taken (hf.taken.trans hmk) hn; omega)
   refine ⟨((ht.trans hf.taken).trans hmk).trans hr.1, ?_⟩
   have h1 := hr.2
   have h2 := hmk.len
   have h3 := hf.2.1
   rw [List.length_cons, List.length_append] at h1
   omega
  ·rw [if_neg h]; exact ⟨Taken.refl _, Nat.le_refl _⟩
theorem termS_fine (E : ES) (n : Nat) (hE : GoodE E n) (st : PSt) (hm : meas st < n + 1) : Fine st (termS E st) := by
 unfold termS
 have ha := (atomS_fine E n hE st hm).1
 have hi := idxS_fine E n hE (atomS E st).2.1.length (atomS E st).1 (atomS E st).2 (meas_taken ha.taken hm)
 have ht := ha.taken.trans hi.1
 exact ⟨ht.1, by have := hi.2; have := ha.2.1; omega, ht.2⟩
theorem exprV_fine (E : ES) (n : Nat) (hE : GoodE E n) (st : PSt) (v : Nn × List Nn × PSt) (left : List Nn) (ht : Taken st v.2.2) (hl : left.length + v.2.1.length + 1 + v.2.2.1.length ≤ st.1.length) (hm : meas v.2.2 < n) : Fine st (exprV E v left) := by
 unfold exprV
 have hf := hE _ hm
 have h1 := ht.trans hf.taken
 refine ⟨h1.1, ?_, h1.2⟩
 have := hf.2.1
 simp only [List.length_cons, List.length_append]
 omega
theorem exprB_fine (E : ES) (n : Nat) (hE : GoodE E n) (st : PSt) (hm : meas st < n + 1) : Fine st (exprB E st) := by
 unfold exprB
 by_cases h1 : verbal st = true
 ·rw [if_pos h1]
  obtain ⟨v1, v2, v3⟩ := verbS_fine E n hE 3 oneB st h1 hm
  exact exprV_fine E n hE st _ [] v1 (by rw [List.length_nil]; omega) v3
 ·rw [if_neg h1]
  have hf := termS_fine E n hE st hm
  by_cases h2 : verbal (termS E st).2 = true
  ·rw [if_pos h2]
   obtain ⟨v1, v2, v3⟩ := verbS_fine E n hE 4 twoB (termS E st).2 h2 (meas_taken hf.taken hm)
   exact exprV_fine E n hE st _ _ (hf.taken.trans v1) (by have := hf.2.1; omega) v3
  ·rw [if_neg h2]
   exact hf
theorem exprS_good : ∀ n, GoodE (exprS n) n := by
 intro n
 induction n with
 | zero => intro st h; omega
 | succ n ih => intro st h; exact exprB_fine (exprS n) n ih st h
end Go.Proofs.Ytdelccahgchadaa
end
section
namespace Go.Proofs.Ytdelccahgchadaa
open Go.RowKit Go.Proofs.YtdelccahgchadaaW.PrintWords Go.Proofs.YtdelccahgchadaaW.PrintMore
set_option linter.unusedVariables false
section
variable {α : Type} (kd : α → Int)
def endW : List α → Nat → Option Nat
 | _, 0 => some 0
 | [], _ + 1 => none
 | x :: l, n + 1 => if kd x < 0 then none else (endW l (n + (kd x).toNat)).map (· + 1)
theorem endW_zero (l : List α) : endW kd l 0 = some 0 := by cases l <;> rfl
theorem endW_le {l : List α} : ∀ {n m : Nat}, endW kd l n = some m → m ≤ l.length ∧ (1 ≤ n → 1 ≤ m) := by
 induction l with
 | nil =>
  intro n m h
  cases n with
  | zero => rw [endW_zero] at h; injection h with h; subst h; exact ⟨Nat.le_refl _, fun h => absurd h (by omega)⟩
  | succ n => cases h
 | cons x l ih =>
  intro n m h
  cases n with
  | zero => rw [endW_zero] at h; injection h with h; subst h; exact ⟨Nat.zero_le _, fun h => absurd h (by omega)⟩
  | succ n =>
   simp only [endW] at h
   split at h
   ·cases h
   ·obtain ⟨j, hj, rfl⟩ := Option.map_eq_some_iff.1 h
    have := (ih hj).1
    rw [List.length_cons]
    exact ⟨by omega, fun _ => by omega⟩
theorem endW_add {l : List α} : ∀ (a b : Nat), endW kd l (a + b) = (endW kd l a).bind fun m => (endW kd (l.drop m) b).map (m + ·) := by
 induction l with
 | nil =>
  intro a b
  cases a with
  | zero => rw [endW_zero, Nat.zero_add]; simp only [Option.bind_some, List.drop_zero]; cases endW kd ([] : List α) b <;> simp
  | succ a => rw [Nat.succ_add]; rfl
 | cons x l ih =>
  intro a b
  cases a with
  | zero => rw [endW_zero, Nat.zero_add]; simp only [Option.bind_some, List.drop_zero]; cases endW kd (x :: l) b <;> simp
  | succ a =>
   rw [show a + 1 + b = (a + b) + 1 by omega]
   simp only [endW]
   by_cases h : kd x < 0
   ·rw [if_pos h, if_pos h]; rfl
   ·rw [if_neg h, if_neg h, show a + b + (kd x).toNat = (a + (kd x).toNat) + b by omega, ih]
    cases endW kd l (a + (kd x).toNat) with
    | none => rfl
    | some m =>
     simp only [Option.bind_some, Option.map_some, List.drop_succ_cons]
     cases endW kd (l.drop m) b with
     | none => rfl
     | some j => simp; omega
theorem endW_append {l : List α} : ∀ {n m : Nat} (r : List α), endW kd l n = some m → endW kd (l ++ r) n = some m := by
 induction l with
 | nil =>
  intro n m r h
  cases n with
  | zero => rw [endW_zero] at h ⊢; exact h
  | succ n => cases h
 | cons x l ih =>
  intro n m r h
  cases n with
  | zero => rw [endW_zero] at h ⊢; exact h
  | succ n =>
   rw [List.cons_append]
   simp only [endW] at h ⊢
   split at h
   ·cases h
   ·rename_i hx
    rw [if_neg hx]
    obtain ⟨j, hj, rfl⟩ := Option.map_eq_some_iff.1 h
    rw [ih r hj]; rfl
theorem endW_take {l : List α} : ∀ {n m : Nat}, endW kd l n = some m → endW kd (l.take m) n = some m := by
 induction l with
 | nil =>
  intro n m h
  rw [List.take_nil]; exact h
 | cons x l ih =>
  intro n m h
  cases n with
  | zero => rw [endW_zero] at h ⊢; exact h
  | succ n =>
   simp only [endW] at h
   split at h
   ·cases h
   ·rename_i hx
    obtain ⟨j, hj, rfl⟩ := Option.map_eq_some_iff.1 h
    rw [List.take_succ_cons]
    simp only [endW]
    rw [if_neg hx, ih hj]; rfl
def dec : List Nat → List Nat
 | [] => []
 | c :: st => if c ≤ 1 then dec st else (c - 1) :: st
def mach : List α → List Nat → Nat → Nat
 | [], _, most => most
 | x :: l, st, most =>
  if (kd x).toNat = 0 then (match dec st with | [] => max most (st.length + 1) | s :: st' => mach l (s :: st') (max most (st.length + 1)))
  else mach l ((kd x).toNat :: st) (max most (st.length + 1))
def fin (st : List Nat) (r : List α) (most : Nat) : Nat := match dec st with | [] => most | s :: st' => mach kd r (s :: st') most
theorem mach_cons0 (x : α) (l : List α) (st : List Nat) (most : Nat) (h : (kd x).toNat = 0) : mach kd (x :: l) st most = fin kd st l (max most (st.length + 1)) := by
 simp only [mach, fin]; rw [if_pos h]
theorem mach_consS (x : α) (l : List α) (st : List Nat) (most : Nat) (h : ¬ (kd x).toNat = 0) : mach kd (x :: l) st most = mach kd l ((kd x).toNat :: st) (max most (st.length + 1)) := by
 simp only [mach]; rw [if_neg h]
theorem mach_max : ∀ (l : List α) (st : List Nat) (most : Nat), mach kd l st most = max most (mach kd l st 0) := by
 intro l
 induction l with
 | nil => intro st most; simp [mach]
 | cons x l ih =>
  intro st most
  simp only [mach]
  by_cases h : (kd x).toNat = 0
  ·rw [if_pos h, if_pos h]
   cases dec st with
   | nil => simp only []; omega
   | cons s st' => simp only []; rw [ih, ih (s :: st') (max 0 (st.length + 1))]; omega
  ·rw [if_neg h, if_neg h, ih, ih ((kd x).toNat :: st) (max 0 (st.length + 1))]; omega
def need : List Nat → Nat
 | [] => 1
 | c :: st => (c - 1) + need st
theorem need_pos (st : List Nat) : 1 ≤ need st := by
 induction st with
 | nil => exact Nat.le_refl _
 | cons c st ih => simp only [need]; omega
theorem dec_need (st : List Nat) (h : ∀ c ∈ st, 1 ≤ c) : (dec st = [] → need st = 1) ∧ (dec st ≠ [] → need (dec st) = need st - 1) ∧ ∀ c ∈ dec st, 1 ≤ c := by
 induction st with
 | nil => exact ⟨fun _ => rfl, fun h => absurd rfl h, fun c hc => by cases hc⟩
 | cons c st ih =>
  have ih := ih fun d hd => h d (List.mem_cons_of_mem _ hd)
  have hc := h c List.mem_cons_self
  have hp := need_pos st
  simp only [dec, need]
  by_cases h1 : c ≤ 1
  ·rw [if_pos h1]
   refine ⟨fun h2 => ?_, fun h2 => ?_, ih.2.2⟩
   ·have := ih.1 h2; omega
   ·have := ih.2.1 h2; omega
  ·rw [if_neg h1]
   refine ⟨fun h2 => (by cases h2), fun _ => ?_, ?_⟩
   ·simp only [need]; omega
   ·intro d hd
    rcases List.mem_cons.1 hd with e | e
    ·omega
    ·exact h d (List.mem_cons_of_mem _ e)
theorem dec_nil_append (s st : List Nat) (h : dec s = []) : dec (s ++ st) = dec st := by
 induction s with
 | nil => rfl
 | cons c s ih =>
  simp only [List.cons_append, dec] at h ⊢
  by_cases h1 : c ≤ 1
  ·rw [if_pos h1] at h ⊢; exact ih h
  ·rw [if_neg h1] at h; cases h
theorem dec_cons_append (s st : List Nat) (h : dec s ≠ []) : dec (s ++ st) = dec s ++ st := by
 induction s with
 | nil => exact absurd rfl h
 | cons c s ih =>
  simp only [List.cons_append, dec] at h ⊢
  by_cases h1 : c ≤ 1
  ·rw [if_pos h1] at h ⊢; rw [if_pos h1]; exact ih h
  ·rw [if_neg h1]; rw [if_neg h1]; rfl
theorem mach_shift : ∀ (f : List α) (s st : List Nat) (r : List α) (most : Nat), (∀ c ∈ s, 1 ≤ c) → endW kd f (need s) = some f.length →
  mach kd (f ++ r) (s ++ st) most = fin kd st r (max most (st.length + mach kd f s 0)) := by
 intro f
 induction f with
 | nil =>
  intro s st r most hs h
  have := need_pos s
  obtain ⟨n, hn⟩ : ∃ n, need s = n + 1 := ⟨need s - 1, by omega⟩
  rw [hn] at h
  cases h
 | cons x f ih =>
  intro s st r most hs h
  have hp := need_pos s
  obtain ⟨n, hn⟩ : ∃ n, need s = n + 1 := ⟨need s - 1, by omega⟩
  rw [hn] at h
  simp only [endW] at h
  by_cases hx : kd x < 0
  ·rw [if_pos hx] at h; cases h
  rw [if_neg hx] at h
  obtain ⟨j, hj, hj2⟩ := Option.map_eq_some_iff.1 h
  rw [List.length_cons] at hj2
  obtain rfl : j = f.length := by omega
  rw [List.cons_append]
  by_cases h0 : (kd x).toNat = 0
  ·rw [mach_cons0 kd _ _ _ _ h0, mach_cons0 kd _ _ _ _ h0]
   rw [h0, Nat.add_zero] at hj
   unfold fin
   have hd := dec_need s hs
   by_cases hd0 : dec s = []
   ·rw [dec_nil_append s st hd0, hd0]
    have := hd.1 hd0
    obtain rfl : n = 0 := by omega
    rw [endW_zero] at hj
    injection hj with hj
    obtain rfl : f = [] := List.length_eq_zero_iff.1 hj.symm
    rw [List.nil_append, List.length_append]
    simp only []
    have e : max most (s.length + st.length + 1) = max most (st.length + max 0 (s.length + 1)) := by omega
    rw [e]
   ·rw [dec_cons_append s st hd0]
    have hn2 := hd.2.1 hd0
    obtain ⟨t, s', hts⟩ : ∃ t s', dec s = t :: s' := by
     cases hds : dec s with
     | nil => exact absurd hds hd0
     | cons t s' => exact ⟨t, s', rfl⟩
    have := ih (dec s) st r (max most ((s ++ st).length + 1)) hd.2.2 (by rw [hn2, hn]; simpa using hj)
    rw [hts] at this ⊢
    simp only [List.cons_append] at this ⊢
    rw [this, List.length_append, mach_max kd f (t :: s') (max 0 (s.length + 1))]
    unfold fin
    have e : max (max most (s.length + st.length + 1)) (st.length + mach kd f (t :: s') 0) = max most (st.length + max (max 0 (s.length + 1)) (mach kd f (t :: s') 0)) := by omega
    rw [e]
  ·rw [mach_consS kd _ _ _ _ h0, mach_consS kd _ _ _ _ h0]
   have := ih ((kd x).toNat :: s) st r (max most ((s ++ st).length + 1)) (by
    intro c hc
    rcases List.mem_cons.1 hc with e | e
    ·omega
    ·exact hs c e) (by
    simp only [need]
    rw [hn, show (kd x).toNat - 1 + (n + 1) = n + (kd x).toNat by omega]
    exact hj)
   rw [List.cons_append] at this
   rw [this, List.length_append, mach_max kd f ((kd x).toNat :: s) (max 0 (s.length + 1))]
   have e : max (max most (s.length + st.length + 1)) (st.length + mach kd f ((kd x).toNat :: s) 0) = max most (st.length + max (max 0 (s.length + 1)) (mach kd f ((kd x).toNat :: s) 0)) := by omega
   rw [e]
def depL (l : List α) : Nat := match endW kd l 1 with | none => 0 | some _ => mach kd l [] 0
theorem depL_append (l r : List α) (h : endW kd l 1 = some l.length) : depL kd (l ++ r) = depL kd l := by
 unfold depL
 rw [endW_append kd r h, h]
 have := mach_shift kd l [] [] r 0 (fun c hc => by cases hc) h
 rw [List.append_nil] at this
 rw [this]
 simp [fin, dec]
end
end Go.Proofs.Ytdelccahgchadaa
end
section
namespace Go.Proofs.Ytdelccahgchadaa.P
open Go.RowKit Go.Proofs.YtdelccahgchadaaW.PrintWords Go.Proofs.YtdelccahgchadaaW.PrintLast Go.Proofs.YtdelccahgchadaaW.PrintMore
attribute [local go_sem] max2_int min2_int max_two min_two max_three min_three max_four min_four   
set_option linter.unusedVariables false
set_option linter.unusedSimpArgs false
mutual
def tree_Kids.j0 : Nat → Int → Int → ByteArray → ByteArray → ByteArray → List ByteArray → Option (Int)
 | 0, _, _, _, _, _, _ => none
 | k + 1, x3, x541000, x541001, x541002, x541003, x541004 => if x541000 = 1 then (tree_Kids.j1 k x3 x541000 (x541000 == 1)) else (tree_Kids.j1 k x3 x541000 (x541000 == 2))
def tree_Kids.j1 : Nat → Int → Int → Bool → Option (Int)
 | 0, _, _, _ => none
 | k + 1, x3, x8, x9 => if x9 = true then (some 0) else (if x8 = 3 then (some (wrap64 (1 + x3))) else (if x8 = 4 then (some (wrap64 (2 + x3))) else (if x8 = 5 then (tree_Kids.j2 k x8 (x8 == 5)) else (tree_Kids.j2 k x8 (x8 == 7)))))
def tree_Kids.j2 : Nat → Int → Bool → Option (Int)
 | 0, _, _ => none
 | k + 1, x8, x20 => if x20 = true then (some 1) else (if x8 = 6 then (some 2) else (if x8 = 8 then (some 2) else (some (-1))))
end
def tree_Kids.f (k : Nat) (a0_0 : Int) (a0_1 : ByteArray) (a0_2 : ByteArray) (a0_3 : ByteArray) (l0_4 : List ByteArray) : Option (Int) := if a0_1.toList = ([123] : List UInt8) then (tree_Kids.j0 k 1 a0_0 a0_1 a0_2 a0_3 l0_4) else (tree_Kids.j0 k 0 a0_0 a0_1 a0_2 a0_3 l0_4)
set_option maxHeartbeats 8000000 in
set_option maxRecDepth 100000 in
theorem tree_Kids.calls (k : Nat) (a0_0 : Int) (a0_1 : ByteArray) (a0_2 : ByteArray) (a0_3 : ByteArray) (A0_4 : Option Addr) (c0_4 : Nat) (l0_4 : List ByteArray) (r : Int) (w : World) (hr0_4 : Kd.C Kd.string w A0_4 l0_4.length l0_4) (hc0_4 : l0_4.length ≤ c0_4) (h : tree_Kids.f k a0_0 a0_1 a0_2 a0_3 l0_4 = some r) :
  Calls Try.prog 21 #[.agg #[.int .i64 a0_0, .string a0_1, .string a0_2, .string a0_3, .slice A0_4 l0_4.length c0_4]] w fun e w' => e = .returned (.int .i64 r) ∧ Below w.heap.size w w' := by
 have hu25 := Try.underlying25
 have HR0_4 := am hr0_4
 have HC0_4 := am hc0_4
 clear hr0_4 hc0_4
 have HB := am (Below.refl w.heap.size w)
 have H : (if a0_1.toList = ([123] : List UInt8) then (tree_Kids.j0 k 1 a0_0 a0_1 a0_2 a0_3 l0_4) else (tree_Kids.j0 k 0 a0_0 a0_1 a0_2 a0_3 l0_4)) = some r := h
 clear h
 have HC2 := am H
 clear H
 go_enter Try.func21, Try.ntmps21
 go_upto_if 6 with (first | ((with_reducible refine gD 1 rfl ?_); refine bx 1 #[.int .i64 a0_0, .string a0_1, .string a0_2, .string a0_3, .slice A0_4 l0_4.length c0_4] 25 ?_; intro gb540 hg w3 hbox hb; have BK540 := am hbox; have GW540 := am (geL hg (kL HB)); replace HB := am (below_step (kL HB) hb); have GE540 := GW540; clear hb hbox hg; obtain ⟨hcz4_0, hcz4_1, hcz4_2, hcz4_3, hcz4_4, hfz4_0, hfz4_1, hfz4_2, hfz4_3, hfz4_4⟩ := bk5 BK540.out))
 (try simp only [Act.put, zT, z0, zS])
 go_cut [3] (fun v3 wc => ∃ (kq : Nat) (x3_1 : Int), v3 = .int .i64 x3_1 ∧ Aside0 (tree_Kids.j0 kq x3_1 a0_0 a0_1 a0_2 a0_3 l0_4 = some r) ∧ Aside0 (kq ≤ k) ∧ Aside0 (wc.heap[gb540]? = some (.cells #[.int .i64 a0_0, .string a0_1, .string a0_2, .string a0_3, (.slice A0_4 l0_4.length c0_4)] 25 (0, 0))) ∧ Aside0 (Below w.heap.size w wc))
 case first =>
  have H := HC2.out
  clear HC2
  by_cases c5 : a0_1.toList = ([123] : List UInt8)
  ·rw [if_pos c5] at H
   have c5b0 := eT c5
   have c5b1 := nF c5
   clear c5
   (first | rw [c5b0] | (simp only [i64_w, i32_w]; rw [c5b0]) | skip)
   have H' := am H
   clear H
   go_wp2
   go_meet
   case rel => exact ⟨_, (1), yS, H', ⟨yO⟩, ⟨kB BK540⟩, ⟨(kL HB)⟩⟩
  ·rw [if_neg c5] at H
   have c5b0 := eF c5
   have c5b1 := nT c5
   (first | rw [c5b0] | (simp only [i64_w, i32_w]; rw [c5b0]) | skip)
   have H' := am H
   clear H
   go_wp2
   go_meet
   case rel => exact ⟨_, (0), yS, H', ⟨yO⟩, ⟨kB BK540⟩, ⟨(kL HB)⟩⟩
 case rest =>
  clear HC2
  try clear c2
  try clear p2
  try clear c5
  try clear c5b0
  try clear c5b1
  try clear hcz4_0
  try clear hcz4_1
  try clear hcz4_2
  try clear hcz4_3
  try clear hcz4_4
  try clear hfz4_0
  try clear hfz4_1
  try clear hfz4_2
  try clear hfz4_3
  try clear hfz4_4
  obtain ⟨kq, x3_1, rfl, HA, HJ1, BK540, HB⟩ := hcut
  cases kq with
  | zero => exact absurd HA.out (by simp [tree_Kids.j0])
  | succ kj1 =>
   have H := HA.out
   clear HA
   simp only [tree_Kids.j0] at H
   have HC6 := am H
   clear H
   obtain ⟨hcz7_0, hcz7_1, hcz7_2, hcz7_3, hcz7_4, hfz7_0, hfz7_1, hfz7_2, hfz7_3, hfz7_4⟩ := bk5 BK540.out
   go_upto_if 9 with (fail)
   go_cut [9] (fun v9 wc => ∃ (kq : Nat) (x9_5 : Bool), v9 = .bool x9_5 ∧ Aside0 (tree_Kids.j1 kq x3_1 a0_0 x9_5 = some r) ∧ Aside0 (kq ≤ kj1) ∧ Aside0 (wc.heap[gb540]? = some (.cells #[.int .i64 a0_0, .string a0_1, .string a0_2, .string a0_3, (.slice A0_4 l0_4.length c0_4)] 25 (0, 0))) ∧ Aside0 (Below w.heap.size w wc))
   case first =>
    have H := HC6.out
    clear HC6
    by_cases c8 : a0_0 = 1
    ·rw [if_pos c8] at H
     have c8b0 := eT c8
     have c8b1 := nF c8
     clear c8
     (first | rw [c8b0] | (simp only [i64_w, i32_w]; rw [c8b0]) | skip)
     have H' := am H
     clear H
     go_wp2
     go_meet
     case rel => exact ⟨_, ((a0_0 == 1)), yS, H', ⟨by have := HJ1.out; first | omega | exact Nat.le_refl _⟩, ⟨kB BK540⟩, ⟨(kL HB)⟩⟩
    ·rw [if_neg c8] at H
     have c8b0 := eF c8
     have c8b1 := nT c8
     (first | rw [c8b0] | (simp only [i64_w, i32_w]; rw [c8b0]) | skip)
     have H' := am H
     clear H
     go_wp2
     go_meet
     case rel => exact ⟨_, ((a0_0 == 2)), yS, H', ⟨by have := HJ1.out; first | omega | exact Nat.le_refl _⟩, ⟨kB BK540⟩, ⟨(kL HB)⟩⟩
   case rest =>
    clear HC6
    try clear c2
    try clear p2
    try clear c5
    try clear c5b0
    try clear c5b1
    try clear c8
    try clear c8b0
    try clear c8b1
    try clear hcz4_0
    try clear hcz4_1
    try clear hcz4_2
    try clear hcz4_3
    try clear hcz4_4
    try clear hcz7_0
    try clear hcz7_1
    try clear hcz7_2
    try clear hcz7_3
    try clear hcz7_4
    try clear hfz4_0
    try clear hfz4_1
    try clear hfz4_2
    try clear hfz4_3
    try clear hfz4_4
    try clear hfz7_0
    try clear hfz7_1
    try clear hfz7_2
    try clear hfz7_3
    try clear hfz7_4
    try clear p2
    obtain ⟨kq, x9_5, rfl, HA, HJ5, BK540, HB⟩ := hcut
    cases kq with
    | zero => exact absurd HA.out (by simp [tree_Kids.j1])
    | succ kj5 =>
     have H := HA.out
     clear HA
     simp only [tree_Kids.j1] at H
     by_cases c9 : x9_5 = true
     ·subst c9
      rw [if_pos rfl] at H
      obtain rfl := Option.some.inj H
      go_wp2
      go_ret
      exact ⟨yE, (kL HB)⟩
     ·replace c9 := Bool.eq_false_iff.mpr c9
      subst c9
      rw [if_neg (show ¬ (false = true) by decide)] at H
      by_cases c10 : a0_0 = 3
      ·rw [if_pos c10] at H
       have c10b0 := eT c10
       have c10b1 := nF c10
       clear c10
       obtain rfl := Option.some.inj H
       go_wp2
       go_ret
       exact ⟨yE, (kL HB)⟩
      ·rw [if_neg c10] at H
       have c10b0 := eF c10
       have c10b1 := nT c10
       by_cases c11 : a0_0 = 4
       ·rw [if_pos c11] at H
        have c11b0 := eT c11
        have c11b1 := nF c11
        clear c11
        obtain rfl := Option.some.inj H
        go_wp2
        go_ret
        exact ⟨yE, (kL HB)⟩
       ·rw [if_neg c11] at H
        have c11b0 := eF c11
        have c11b1 := nT c11
        have HC12 := am H
        clear H
        go_upto_if 20 with (fail)
        go_cut [20] (fun v20 wc => ∃ (kq : Nat) (x20_11 : Bool), v20 = .bool x20_11 ∧ Aside0 (tree_Kids.j2 kq a0_0 x20_11 = some r) ∧ Aside0 (kq ≤ kj5) ∧ Aside0 (wc.heap[gb540]? = some (.cells #[.int .i64 a0_0, .string a0_1, .string a0_2, .string a0_3, (.slice A0_4 l0_4.length c0_4)] 25 (0, 0))) ∧ Aside0 (Below w.heap.size w wc))
        case first =>
         have H := HC12.out
         clear HC12
         by_cases c13 : a0_0 = 5
         ·rw [if_pos c13] at H
          have c13b0 := eT c13
          have c13b1 := nF c13
          clear c13
          (first | rw [c13b0] | (simp only [i64_w, i32_w]; rw [c13b0]) | skip)
          have H' := am H
          clear H
          go_wp2
          go_meet
          case rel => exact ⟨_, ((a0_0 == 5)), yS, H', ⟨by have := HJ1.out; have := HJ5.out; first | omega | exact Nat.le_refl _⟩, ⟨kB BK540⟩, ⟨(kL HB)⟩⟩
         ·rw [if_neg c13] at H
          have c13b0 := eF c13
          have c13b1 := nT c13
          (first | rw [c13b0] | (simp only [i64_w, i32_w]; rw [c13b0]) | skip)
          have H' := am H
          clear H
          go_wp2
          go_meet
          case rel => exact ⟨_, ((a0_0 == 7)), yS, H', ⟨by have := HJ1.out; have := HJ5.out; first | omega | exact Nat.le_refl _⟩, ⟨kB BK540⟩, ⟨(kL HB)⟩⟩
        case rest =>
         clear HC12
         try clear c1
         try clear c2
         try clear p2
         try clear c5
         try clear c5b0
         try clear c5b1
         try clear p6
         try clear c8
         try clear c8b0
         try clear c8b1
         try clear c9
         try clear c10
         try clear c10b0
         try clear c10b1
         try clear c11
         try clear c11b0
         try clear c11b1
         try clear c13
         try clear c13b0
         try clear c13b1
         try clear hcz4_0
         try clear hcz4_1
         try clear hcz4_2
         try clear hcz4_3
         try clear hcz4_4
         try clear hcz7_0
         try clear hcz7_1
         try clear hcz7_2
         try clear hcz7_3
         try clear hcz7_4
         try clear hfz4_0
         try clear hfz4_1
         try clear hfz4_2
         try clear hfz4_3
         try clear hfz4_4
         try clear hfz7_0
         try clear hfz7_1
         try clear hfz7_2
         try clear hfz7_3
         try clear hfz7_4
         try clear p2
         obtain ⟨kq, x20_11, rfl, HA, HJ11, BK540, HB⟩ := hcut
         cases kq with
         | zero => exact absurd HA.out (by simp [tree_Kids.j2])
         | succ kj11 =>
          have H := HA.out
          clear HA
          simp only [tree_Kids.j2] at H
          by_cases c14 : x20_11 = true
          ·subst c14
           rw [if_pos rfl] at H
           obtain rfl := Option.some.inj H
           go_wp2
           go_ret
           exact ⟨yE, (kL HB)⟩
          ·replace c14 := Bool.eq_false_iff.mpr c14
           subst c14
           rw [if_neg (show ¬ (false = true) by decide)] at H
           by_cases c15 : a0_0 = 6
           ·rw [if_pos c15] at H
            have c15b0 := eT c15
            have c15b1 := nF c15
            clear c15
            obtain rfl := Option.some.inj H
            go_wp2
            go_ret
            exact ⟨yE, (kL HB)⟩
           ·rw [if_neg c15] at H
            have c15b0 := eF c15
            have c15b1 := nT c15
            by_cases c16 : a0_0 = 8
            ·rw [if_pos c16] at H
             have c16b0 := eT c16
             have c16b1 := nF c16
             clear c16
             obtain rfl := Option.some.inj H
             go_wp2
             go_ret
             exact ⟨yE, (kL HB)⟩
            ·rw [if_neg c16] at H
             have c16b0 := eF c16
             have c16b1 := nT c16
             obtain rfl := Option.some.inj H
             go_wp2
             go_ret
             exact ⟨yE, (kL HB)⟩
end Go.Proofs.Ytdelccahgchadaa.P
end
section
namespace Go.Proofs.Ytdelccahgchadaa.P
open Go.RowKit Go.Proofs.YtdelccahgchadaaW.PrintWords Go.Proofs.YtdelccahgchadaaW.PrintLast Go.Proofs.YtdelccahgchadaaW.PrintMore
attribute [local go_sem] max2_int min2_int max_two min_two max_three min_three max_four min_four   
set_option linter.unusedVariables false
set_option linter.unusedSimpArgs false
def tree_End.l0 : Nat → List (S25) → Int → Int → Option (Int × Bool)
 | 0, _, _, _ => none
 | k + 1, x0, x1, x6 => if x6 > 0 then (if x1 < 0 then (some (0, false)) else (if x1 ≥ (x0.length : Int) then (some (0, false)) else (if 0 ≤ x1 then (if x1 < (x0.length : Int) then ((tree_Kids.f k ((rd_T25 x0 x1).f0) ((rd_T25 x0 x1).f1) ((rd_T25 x0 x1).f2) ((rd_T25 x0 x1).f3) ((rd_T25 x0 x1).f4)).bind fun t542 => (if t542 < 0 then (some (0, false)) else ((tree_Kids.f k ((rd_T25 x0 x1).f0) ((rd_T25 x0 x1).f1) ((rd_T25 x0 x1).f2) ((rd_T25 x0 x1).f3) ((rd_T25 x0 x1).f4)).bind fun t544 => (tree_End.l0 k x0 (wrap64 (x1 + 1)) (wrap64 ((wrap64 (x6 + t544)) - 1)))))) else (none)) else (none)))) else (some (x1, true))
def tree_End.f (k : Nat) (l0 : List (S25)) (a1 : Int) : Option (Int × Bool) := tree_End.l0 k l0 a1 1
set_option maxHeartbeats 8000000 in
set_option maxRecDepth 100000 in
theorem tree_End.calls (k : Nat) (A0 : Option Addr) (c0 : Nat) (l0 : List (S25)) (a1 : Int) (r1 : Int) (r2 : Bool) (w : World) (hr0 : Kd.C k25 w A0 l0.length l0) (hc0 : l0.length ≤ c0) (h : tree_End.f k l0 a1 = some (r1, r2)) :
  Calls Try.prog 19 #[.slice A0 l0.length c0, .int .i64 a1] w fun e w' => e = .returned (.tuple #[.int .i64 r1, .bool r2]) ∧ Below w.heap.size w w' := by
 have hu25 := Try.underlying25
 have HR0 := am hr0
 have HC0 := am hc0
 clear hr0 hc0
 have HB := am (Below.refl w.heap.size w)
 have H : (tree_End.l0 k l0 a1 1) = some (r1, r2) := h
 clear h
 have H' := am H
 clear H
 go_enter Try.func19, Try.ntmps19
 go_wp2
 go_loopg [1, 6] k (fun kq v1 v6 w' => ∃ (x1_1 : Int) (x6_1 : Int), v1 = .int .i64 x1_1 ∧ v6 = .int .i64 x6_1 ∧ Aside0 (tree_End.l0 kq l0 x1_1 x6_1 = some (r1, r2)) ∧ Aside0 (kq ≤ k) ∧ Aside0 (Below w.heap.size w w'))
 case atStart => exact ⟨(a1), (1), yS, yS, H', ⟨Nat.le_refl _⟩, ⟨(kL HB)⟩⟩
 case round =>
  clear H'
  try clear c1
  try clear p2
  obtain ⟨x1_1, x6_1, rfl, rfl, HA, HK1, HB⟩ := hrel
  cases gk with
  | zero => exact absurd HA.out (by simp [tree_End.l0])
  | succ k1 =>
   have H := HA.out
   clear HA
   simp only [tree_End.l0] at H
   by_cases c3 : x6_1 > 0
   ·rw [if_pos c3] at H
    have c3b0 : decide (0 < x6_1) = true := decide_eq_true c3
    clear c3
    by_cases c4 : x1_1 < 0
    ·rw [if_pos c4] at H
     have c4b0 : decide (x1_1 < 0) = true := decide_eq_true c4
     clear c4
     simp only [Option.some.injEq, Prod.mk.injEq] at H
     obtain ⟨rfl, rfl⟩ := H
     go_wp2
     go_ret2
     exact ⟨yE, (kL HB)⟩
    ·rw [if_neg c4] at H
     have c4b0 : decide (x1_1 < 0) = false := decide_eq_false c4
     clear c4
     by_cases c5 : x1_1 ≥ (l0.length : Int)
     ·rw [if_pos c5] at H
      have c5b0 : decide ((l0.length : Int) ≤ x1_1) = true := decide_eq_true c5
      clear c5
      simp only [Option.some.injEq, Prod.mk.injEq] at H
      obtain ⟨rfl, rfl⟩ := H
      go_wp2
      go_ret2
      exact ⟨yE, (kL HB)⟩
     ·rw [if_neg c5] at H
      have c5b0 : decide ((l0.length : Int) ≤ x1_1) = false := decide_eq_false c5
      clear c5
      by_cases c6 : 0 ≤ x1_1
      ·rw [if_pos c6] at H
       have c6b0 : decide (0 ≤ x1_1) = true := decide_eq_true c6
       clear c6
       by_cases c7 : x1_1 < (l0.length : Int)
       ·rw [if_pos c7] at H
        have c7b0 : decide (x1_1 < (l0.length : Int)) = true := decide_eq_true c7
        clear c7
        replace H := Option.bind_eq_some_iff.mp H
        obtain ⟨t542, A80, H⟩ := H
        try dsimp only at H
        have A8 := am A80
        clear A80
        by_cases c9 : t542 < 0
        ·rw [if_pos c9] at H
         have c9b0 : decide (t542 < 0) = true := decide_eq_true c9
         clear c9
         simp only [Option.some.injEq, Prod.mk.injEq] at H
         obtain ⟨rfl, rfl⟩ := H
         have p541 : 0 ≤ (x1_1 : Int) := of_decide_eq_true yY
         have q541 : x1_1 < (l0.length : Int) := of_decide_eq_true yY
         obtain ⟨ad541, A541_4, c541_4, e541, hx541_0, hx541_1, hx541_2, hx541_3, hx541_4, hl541_4, hi541_4⟩ := at_T25 HR0.out x1_1 p541 q541
         cases e541
         replace hx541_0 := (HB.out.cell (World.block_lt_of_cell? w _ hx541_0)).trans hx541_0
         replace hx541_1 := (HB.out.cell (World.block_lt_of_cell? w _ hx541_1)).trans hx541_1
         replace hx541_2 := (HB.out.cell (World.block_lt_of_cell? w _ hx541_2)).trans hx541_2
         replace hx541_3 := (HB.out.cell (World.block_lt_of_cell? w _ hx541_3)).trans hx541_3
         replace hx541_4 := (HB.out.cell (World.block_lt_of_cell? w _ hx541_4)).trans hx541_4
         have HR541_4 := am hi541_4
         have HC541_4 := am hl541_4
         clear hi541_4 hl541_4
         replace p541 := eq_true p541
         replace q541 := eq_true q541
         go_wp2_with (go_at_call 21; (with_reducible refine (tree_Kids.calls _ _ _ _ _ _ _ _ _ _ ?side1 ?side2 A8.out).mono ?_); (case side1 => exact Kd.C_below HR541_4.out (kL HB)); (case side2 => exact HC541_4.out); rintro e w10 ⟨rfl, hb⟩; replace HB := am (below_step (kL HB) hb); (try clear hb))
         go_ret2
         exact ⟨yE, (kL HB)⟩
        ·rw [if_neg c9] at H
         have c9b0 : decide (t542 < 0) = false := decide_eq_false c9
         clear c9
         replace H := Option.bind_eq_some_iff.mp H
         obtain ⟨t544, A110, H⟩ := H
         try dsimp only at H
         have A11 := am A110
         clear A110
         have H' := am H
         clear H
         have p541 : 0 ≤ (x1_1 : Int) := of_decide_eq_true yY
         have q541 : x1_1 < (l0.length : Int) := of_decide_eq_true yY
         obtain ⟨ad541, A541_4, c541_4, e541, hx541_0, hx541_1, hx541_2, hx541_3, hx541_4, hl541_4, hi541_4⟩ := at_T25 HR0.out x1_1 p541 q541
         cases e541
         replace hx541_0 := (HB.out.cell (World.block_lt_of_cell? w _ hx541_0)).trans hx541_0
         replace hx541_1 := (HB.out.cell (World.block_lt_of_cell? w _ hx541_1)).trans hx541_1
         replace hx541_2 := (HB.out.cell (World.block_lt_of_cell? w _ hx541_2)).trans hx541_2
         replace hx541_3 := (HB.out.cell (World.block_lt_of_cell? w _ hx541_3)).trans hx541_3
         replace hx541_4 := (HB.out.cell (World.block_lt_of_cell? w _ hx541_4)).trans hx541_4
         have HR541_4 := am hi541_4
         have HC541_4 := am hl541_4
         clear hi541_4 hl541_4
         replace p541 := eq_true p541
         replace q541 := eq_true q541
         go_wp2_with (first | (go_at_call 21; (with_reducible refine (tree_Kids.calls _ _ _ _ _ _ _ _ _ _ ?side1 ?side2 A8.out).mono ?_); (case side1 => exact Kd.C_below HR541_4.out (kL HB)); (case side2 => exact HC541_4.out); rintro e w12 ⟨rfl, hb⟩; replace HB := am (below_step (kL HB) hb); (try clear hb); have p543 : 0 ≤ (x1_1 : Int) := of_decide_eq_true yY; have q543 : x1_1 < (l0.length : Int) := of_decide_eq_true yY; obtain ⟨ad543, A543_4, c543_4, e543, hx543_0, hx543_1, hx543_2, hx543_3, hx543_4, hl543_4, hi543_4⟩ := at_T25 HR0.out x1_1 p543 q543; obtain rfl : ad541 = ad543 := (by injection e543); replace hx543_0 := (HB.out.cell (World.block_lt_of_cell? w _ hx543_0)).trans hx543_0; replace hx543_1 := (HB.out.cell (World.block_lt_of_cell? w _ hx543_1)).trans hx543_1; replace hx543_2 := (HB.out.cell (World.block_lt_of_cell? w _ hx543_2)).trans hx543_2; replace hx543_3 := (HB.out.cell (World.block_lt_of_cell? w _ hx543_3)).trans hx543_3; replace hx543_4 := (HB.out.cell (World.block_lt_of_cell? w _ hx543_4)).trans hx543_4; have HR543_4 := am hi543_4; have HC543_4 := am hl543_4; clear hi543_4 hl543_4; replace p543 := eq_true p543; replace q543 := eq_true q543) | ((with_reducible refine gC 21 rfl ?_); refine gL (some 32) Try.func21 #[.agg #[.int .i64 ((rd_T25 l0 x1_1).f0), .string ((rd_T25 l0 x1_1).f1), .string ((rd_T25 l0 x1_1).f2), .string ((rd_T25 l0 x1_1).f3), .slice A543_4 ((rd_T25 l0 x1_1).f4).length c543_4]] ?_; (with_reducible refine (tree_Kids.calls _ _ _ _ _ _ _ _ _ _ ?side1 ?side2 A11.out).mono ?_); (case side1 => exact Kd.C_below HR543_4.out (kL HB)); (case side2 => exact HC543_4.out); rintro e w13 ⟨rfl, hb⟩; refine ⟨_, rfl, ?_⟩; replace HB := am (below_step (kL HB) hb); (try clear hb)))
         go_roundg k1
         case measure => have := HK1.out; omega
         case rel => exact ⟨(wrap64 (x1_1 + 1)), (wrap64 ((wrap64 (x6_1 + t544)) - 1)), yS, yS, H', ⟨by have := HK1.out; omega⟩, ⟨(kL HB)⟩⟩
       ·rw [if_neg c7] at H
        exact absurd H (by simp)
      ·rw [if_neg c6] at H
       exact absurd H (by simp)
   ·rw [if_neg c3] at H
    have c3b0 : decide (0 < x6_1) = false := decide_eq_false c3
    clear c3
    simp only [Option.some.injEq, Prod.mk.injEq] at H
    obtain ⟨rfl, rfl⟩ := H
    go_wp2
    go_ret2
    exact ⟨yE, (kL HB)⟩
end Go.Proofs.Ytdelccahgchadaa.P
end
section
namespace Go.Proofs.Ytdelccahgchadaa.P
open Go.RowKit Go.Proofs.YtdelccahgchadaaW.PrintWords Go.Proofs.YtdelccahgchadaaW.PrintLast Go.Proofs.YtdelccahgchadaaW.PrintMore
attribute [local go_sem] max2_int min2_int max_two min_two max_three min_three max_four min_four   
set_option linter.unusedVariables false
set_option linter.unusedSimpArgs false
mutual
def tree_Depth.l0 : Nat → Int → List Int → List (S25) → Int → Int → Option (Int)
 | 0, _, _, _, _, _ => none
 | k + 1, x5, x6, x16, x17, x18 => if x18 < x17 then (if 0 ≤ x18 then (if x18 < (x16.length : Int) then ((tree_Kids.f k ((rd_T25 x16 x18).f0) ((rd_T25 x16 x18).f1) ((rd_T25 x16 x18).f2) ((rd_T25 x16 x18).f3) ((rd_T25 x16 x18).f4)).bind fun t558 => (if x6.length < 17592186044416 then ((some (x6 ++ [t558] : List Int)).bind fun y559 => (tree_Depth.l1 k (mx x5 (y559.length : Int)) y559 x16 x17 x18)) else (none))) else (none)) else (none)) else (some x5)
def tree_Depth.l1 : Nat → Int → List Int → List (S25) → Int → Int → Option (Int)
 | 0, _, _, _, _, _ => none
 | k + 1, x5, x6, x16, x17, x18 => if (x6.length : Int) > 0 then (if 0 ≤ (wrap64 ((x6.length : Int) - 1)) then (if (wrap64 ((x6.length : Int) - 1)) < (x6.length : Int) then (tree_Depth.j2 k x5 x6 x16 x17 x18 ((rd x6 (wrap64 ((x6.length : Int) - 1))) == 0)) else (none)) else (none)) else (tree_Depth.j2 k x5 x6 x16 x17 x18 false)
def tree_Depth.j2 : Nat → Int → List Int → List (S25) → Int → Int → Bool → Option (Int)
 | 0, _, _, _, _, _, _ => none
 | k + 1, x5, x6, x16, x17, x18, x42 => if x42 = true then (if 0 ≤ (wrap64 ((x6.length : Int) - 1)) then (if (wrap64 ((x6.length : Int) - 1)) ≤ (x6.length : Int) then ((some (x6.take ((wrap64 ((x6.length : Int) - 1)) : Int).toNat : List Int)).bind fun y563 => (if (y563.length : Int) > 0 then (if 0 ≤ (wrap64 ((y563.length : Int) - 1)) then (if (wrap64 ((y563.length : Int) - 1)) < (y563.length : Int) then (tree_Depth.l1 k x5 (y563.set ((wrap64 ((y563.length : Int) - 1)) : Int).toNat (wrap64 ((rd y563 (wrap64 ((y563.length : Int) - 1))) - 1))) x16 x17 x18) else (none)) else (none)) else (tree_Depth.l1 k x5 y563 x16 x17 x18))) else (none)) else (none)) else (if (x6.length : Int) = 0 then (some x5) else (tree_Depth.l0 k x5 x6 x16 x17 (wrap64 (x18 + 1))))
end
def tree_Depth.f (k : Nat) (l0 : List (S25)) : Option (Int) := (tree_End.f k l0 0).bind fun bt554 => (if bt554.2 = true then (tree_Depth.l0 k 0 ([] : List Int) l0 (l0.length : Int) 0) else (some 0))
set_option maxHeartbeats 8000000 in
set_option maxRecDepth 100000 in
theorem tree_Depth.calls (k : Nat) (A0 : Option Addr) (c0 : Nat) (l0 : List (S25)) (r : Int) (w : World) (hr0 : Kd.C k25 w A0 l0.length l0) (hc0 : l0.length ≤ c0) (h : tree_Depth.f k l0 = some r) :
  Calls Try.prog 26 #[.slice A0 l0.length c0] w fun e w' => e = .returned (.int .i64 r) ∧ Below w.heap.size w w' := by
 have hu25 := Try.underlying25
 have HR0 := am hr0
 have HC0 := am hc0
 clear hr0 hc0
 have HB := am (Below.refl w.heap.size w)
 have H : ((tree_End.f k l0 0).bind fun bt554 => (if bt554.2 = true then (tree_Depth.l0 k 0 ([] : List Int) l0 (l0.length : Int) 0) else (some 0))) = some r := h
 clear h
 replace H := Option.bind_eq_some_iff.mp H
 obtain ⟨⟨t554, t555⟩, A20, H⟩ := H
 try dsimp only at H
 have A2 := am A20
 clear A20
 by_cases c3 : t555 = true
 ·subst c3
  rw [if_pos rfl] at H
  have H' := am H
  clear H
  go_enter Try.func26, Try.ntmps26
  go_wp2_with ((with_reducible refine gC 19 rfl ?_); refine gL (some 11) Try.func19 #[.slice A0 l0.length c0, .int .i64 0] ?_; (with_reducible refine (tree_End.calls _ _ _ _ _ _ _ _ ?side1 ?side2 A2.out).mono ?_); (case side1 => repeat (first | exact HR0.out | (with_reducible refine Kd.C_alloc ?_ _) | (with_reducible refine Kd.C_drewN ?_ _) | (with_reducible refine Kd.C_drew ?_))); (case side2 => exact HC0.out); rintro e w4 ⟨rfl, hb⟩; refine ⟨_, rfl, ?_⟩; replace HB := am (below_step (kL HB) hb); (try clear hb))
  go_loopg [5, 6, 18] k (fun kq v5 v6 v18 w' => ∃ (x5_1 : Int) (x6_1 : List Int) (x18_1 : Int), v5 = .int .i64 x5_1 ∧ v18 = .int .i64 x18_1 ∧ Aside0 (tree_Depth.l0 kq x5_1 x6_1 l0 (l0.length : Int) x18_1 = some r) ∧ Aside0 (kq ≤ k) ∧ Aside0 (Kd.R (Kd.int .i64) 3 w' w.heap.size (fun _ => True) v6 x6_1) ∧ Aside0 (Below w.heap.size w w'))
  case atStart => exact ⟨(0), (([] : List Int)), (0), yS, yS, H', ⟨Nat.le_refl _⟩, ⟨by first | exact Kd.R_nil _ _ _ _ _ | exact Kd.N_nil _ _ _ _ _ | exact Kd.V_nil _ _ _ _ _ | exact Kd.Q_nil _ _ _ _ _ | exact Kd.S_nil _ _ _ _ _⟩, ⟨(kL HB)⟩⟩
  case round =>
   clear H'
   try clear c1
   try clear c2
   try clear p2
   try clear c3
   obtain ⟨x5_1, x6_1, x18_1, rfl, rfl, HA, HK1, HO_6, HB⟩ := hrel
   cases gk with
   | zero => exact absurd HA.out (by simp [tree_Depth.l0])
   | succ k1 =>
    have H := HA.out
    clear HA
    simp only [tree_Depth.l0] at H
    by_cases c5 : x18_1 < (l0.length : Int)
    ·rw [if_pos c5] at H
     have c5b0 : decide (x18_1 < (l0.length : Int)) = true := decide_eq_true c5
     clear c5
     by_cases c6 : 0 ≤ x18_1
     ·rw [if_pos c6] at H
      have c6b0 : decide (0 ≤ x18_1) = true := decide_eq_true c6
      clear c6
      by_cases c7 : x18_1 < (l0.length : Int)
      ·rw [if_pos c7] at H
       have c7b0 : decide (x18_1 < (l0.length : Int)) = true := decide_eq_true c7
       clear c7
       replace H := Option.bind_eq_some_iff.mp H
       obtain ⟨t558, A80, H⟩ := H
       try dsimp only at H
       have A8 := am A80
       clear A80
       by_cases c9 : x6_1.length < 17592186044416
       ·rw [if_pos c9] at H
        have LMc9 := am c9
        clear c9
        obtain ⟨y559, hy559⟩ : ∃ y_ : List Int, y_ = (x6_1 ++ [t558]) := ⟨_, rfl⟩
        replace H : (tree_Depth.l1 k1 (mx x5_1 (y559.length : Int)) y559 l0 (l0.length : Int) x18_1) = some r := by first | (rw [hy559]; with_reducible exact H) | (have H2_ := (Option.bind_some _ _).symm.trans H; rw [hy559]; with_reducible exact H2_) | (have H2_ := (Option.bind_some _ _).symm.trans H; with_reducible exact H2_) | with_reducible exact H | (rw [hy559]; exact H) | exact H
        have Ny559 := am hy559
        clear hy559
        obtain ⟨ji10, hji10⟩ : ∃ j_ : Int, (mx x5_1 (y559.length : Int)) = j_ := ⟨_, rfl⟩
        replace H : (tree_Depth.l1 k1 ji10 y559 l0 (l0.length : Int) x18_1) = some r := by first | (rw [hji10] at H; exact H) | (simp only [hji10] at H ⊢; exact H)
        (try rw [hji10] at A8)
        have hji10_ : (if x5_1 < (y559.length : Int) then (y559.length : Int) else x5_1) = ji10 := hji10
        have H' := am H
        clear H
        have p556 : 0 ≤ (x18_1 : Int) := of_decide_eq_true yY
        have q556 : x18_1 < (l0.length : Int) := of_decide_eq_true yY
        obtain ⟨ad556, A556_4, c556_4, e556, hx556_0, hx556_1, hx556_2, hx556_3, hx556_4, hl556_4, hi556_4⟩ := at_T25 HR0.out x18_1 p556 q556
        cases e556
        replace hx556_0 := (HB.out.cell (World.block_lt_of_cell? w _ hx556_0)).trans hx556_0
        replace hx556_1 := (HB.out.cell (World.block_lt_of_cell? w _ hx556_1)).trans hx556_1
        replace hx556_2 := (HB.out.cell (World.block_lt_of_cell? w _ hx556_2)).trans hx556_2
        replace hx556_3 := (HB.out.cell (World.block_lt_of_cell? w _ hx556_3)).trans hx556_3
        replace hx556_4 := (HB.out.cell (World.block_lt_of_cell? w _ hx556_4)).trans hx556_4
        have HR556_4 := am hi556_4
        have HC556_4 := am hl556_4
        clear hi556_4 hl556_4
        replace p556 := eq_true p556
        replace q556 := eq_true q556
        go_wp2_with (first | ((with_reducible refine gD 8 rfl ?_); (try (refine gate_guard (by rfl) ?_; dsimp only)); refine bx 8 #[.int .i64 0, .string (⟨#[]⟩ : ByteArray), .string (⟨#[]⟩ : ByteArray), .string (⟨#[]⟩ : ByteArray), .slice none 0 0] 25 ?_; intro gb557 hg w11 hbox hb; replace HO_6 := am (Kd.R_below (rB HO_6) hb); have BK557 := am hbox; have GW557 := am (geL hg (kL HB)); replace HB := am (below_step (kL HB) hb); have GE557 := GW557; clear hb hbox hg; obtain ⟨hcz12_0, hcz12_1, hcz12_2, hcz12_3, hcz12_4, hfz12_0, hfz12_1, hfz12_2, hfz12_3, hfz12_4⟩ := bk5 BK557.out) | ((with_reducible refine gC 21 rfl ?_); refine gL (some 24) Try.func21 #[.agg #[.int .i64 ((rd_T25 l0 x18_1).f0), .string ((rd_T25 l0 x18_1).f1), .string ((rd_T25 l0 x18_1).f2), .string ((rd_T25 l0 x18_1).f3), .slice A556_4 ((rd_T25 l0 x18_1).f4).length c556_4]] ?_; (with_reducible refine (tree_Kids.calls _ _ _ _ _ _ _ _ _ _ ?side1 ?side2 A8.out).mono ?_); (case side1 => exact Kd.C_below HR556_4.out (kL HB)); (case side2 => exact HC556_4.out); rintro e w13 ⟨rfl, hb⟩; refine ⟨_, rfl, ?_⟩; replace HO_6 := am (Kd.R_below (by (with_reducible repeat (first | apply Kd.R_alloc | apply Kd.R_drewN | apply Kd.R_drew)); exact (Kd.R_mono (Kd.R_far (p := ⟨gb557, 4, none⟩) (Kd.R_far (p := ⟨gb557, 3, none⟩) (Kd.R_far (p := ⟨gb557, 2, none⟩) (Kd.R_far (p := ⟨gb557, 1, none⟩) (Kd.R_far (p := ⟨gb557, 0, none⟩) (Kd.R_types HO_6.out BK557.out (by decide)) (fun _ hk => hk.2) (.int .i64 ((rd_T25 l0 x18_1).f0))) (fun _ hk => hk.2) (.string ((rd_T25 l0 x18_1).f1))) (fun _ hk => hk.2) (.string ((rd_T25 l0 x18_1).f2))) (fun _ hk => hk.2) (.string ((rd_T25 l0 x18_1).f3))) (fun _ hk => hk.2) (.slice A556_4 ((rd_T25 l0 x18_1).f4).length c556_4)) (fun _ h_ => h_.1))) hb); replace BK557 := am (bB (g := gb557) (o := .cells #[.int .i64 ((rd_T25 l0 x18_1).f0), .string ((rd_T25 l0 x18_1).f1), .string ((rd_T25 l0 x18_1).f2), .string ((rd_T25 l0 x18_1).f3), .slice A556_4 ((rd_T25 l0 x18_1).f4).length c556_4] 25 (0, 0)) (kM BK557) hb); replace HB := am (below_step (kL HB) hb); (try clear hb)) | ((with_reducible refine gate_builtin (b := .append) (xs := #[.tmp 22, .tmp 25]) rfl ?_); (try (refine gate_guard (by rfl) ?_; dsimp only)); at_builtin; refine Kd.R_append (Kd.int .i64) (w0 := w) w.heap.size rfl (.tmp 22) (.tmp 25) 32 3 (.int .i64 0) 8 rfl Try.underlying32 info3 rfl (by decide) (by omega) u6 x6_1 t558 [.int .i64 t558] (fun _ => True) (fun _ => False) rfl rfl ?aP (fun _ hk => hk.elim) ?aF ?aO ?aB ?aS ?aL ?_; (case aP => exact rfl); (case aB => exact (kL HB)); (case aF => exact (fun _ _ => trivial)); (case aO => exact (rB HO_6)); (case aS => exact (below_size (kL HB))); (case aL => have := LMc9.out; omega); intro v560 w14 ho hb hg hat; rw [← Ny559.out] at ho; have n0_ := am (blk_grown (g := gb557) (o := .cells #[.int .i64 ((rd_T25 l0 x18_1).f0), .string ((rd_T25 l0 x18_1).f1), .string ((rd_T25 l0 x18_1).f2), .string ((rd_T25 l0 x18_1).f3), .slice A556_4 ((rd_T25 l0 x18_1).f4).length c556_4] 25 (0, 0)) (kB BK557) hg (Kd.R_ne HO_6.out BK557.out (by decide))); have n1_ := am hb; have n2_ := am (ho); clear BK557; clear HB; clear HO_6; have BK557 := n0_; have HB := n1_; have HO561 := n2_; clear n0_ n1_ n2_; clear ho hb hg hat; obtain ⟨Ao15, co15, eo15⟩ := Kd.R_slice HO561.out; subst eo15))
        go_loopg [6] k1 (fun kq v6 w' => ∃ (x6_2 : List Int), Aside0 (tree_Depth.l1 kq ji10 x6_2 l0 (l0.length : Int) x18_1 = some r) ∧ Aside0 (kq ≤ k1) ∧ Aside0 (Kd.R (Kd.int .i64) 3 w' w.heap.size (fun _ => True) v6 x6_2) ∧ Aside0 (w'.heap[gb557]? = some (.cells #[.int .i64 ((rd_T25 l0 x18_1).f0), .string ((rd_T25 l0 x18_1).f1), .string ((rd_T25 l0 x18_1).f2), .string ((rd_T25 l0 x18_1).f3), (.slice A556_4 ((rd_T25 l0 x18_1).f4).length c556_4)] 25 (0, 0))) ∧ Aside0 (Below w.heap.size w w'))
        case atStart => exact ⟨(y559), H', ⟨Nat.le_refl _⟩, ⟨rB HO561⟩, ⟨kB BK557⟩, ⟨(kL HB)⟩⟩
        case round =>
         clear H'
         try clear c1
         try clear c2
         try clear p2
         try clear c3
         try clear c5
         try clear c5b0
         try clear p5
         try clear q5
         try clear hx5
         try clear c6
         try clear c6b0
         try clear c7
         try clear c7b0
         try clear c9
         try clear hcz12_0
         try clear hcz12_1
         try clear hcz12_2
         try clear hcz12_3
         try clear hcz12_4
         try clear hfz12_0
         try clear hfz12_1
         try clear hfz12_2
         try clear hfz12_3
         try clear hfz12_4
         try clear hx556_0
         try clear hx556_1
         try clear hx556_2
         try clear hx556_3
         try clear hx556_4
         try clear p2
         try clear p556
         try clear q556
         obtain ⟨x6_2, HA, HK2, HO_6, BK557, HB⟩ := hrel
         cases gk with
         | zero => exact absurd HA.out (by simp [tree_Depth.l1])
         | succ k2 =>
          have H := HA.out
          clear HA
          simp only [tree_Depth.l1] at H
          have HC16 := am H
          clear H
          go_upto_region 11 with (fail)
          go_cut [42] (fun v42 wc => ∃ (kq : Nat) (x42_15 : Bool), v42 = .bool x42_15 ∧ Aside0 (tree_Depth.j2 kq ji10 x6_2 l0 (l0.length : Int) x18_1 x42_15 = some r) ∧ Aside0 (kq ≤ k2) ∧ Aside0 (Kd.R (Kd.int .i64) 3 wc w.heap.size (fun _ => True) u6 x6_2) ∧ Aside0 (wc.heap[gb557]? = some (.cells #[.int .i64 ((rd_T25 l0 x18_1).f0), .string ((rd_T25 l0 x18_1).f1), .string ((rd_T25 l0 x18_1).f2), .string ((rd_T25 l0 x18_1).f3), (.slice A556_4 ((rd_T25 l0 x18_1).f4).length c556_4)] 25 (0, 0))) ∧ Aside0 (Below w.heap.size w wc))
          case first =>
           have H := HC16.out
           clear HC16
           by_cases c17 : (x6_2.length : Int) > 0
           ·rw [if_pos c17] at H
            have c17b0 : decide (0 < (x6_2.length : Int)) = true := decide_eq_true c17
            have c17b1 : decide (0 < x6_2.length) = true := decide_eq_true (by omega)
            clear c17
            (first | rw [c17b0] | (simp only [i64_w, i32_w]; rw [c17b0]) | skip)
            obtain ⟨ji18, hji18⟩ : ∃ j_ : Int, (wrap64 ((x6_2.length : Int) - 1)) = j_ := ⟨_, rfl⟩
            replace H : (if 0 ≤ (ji18) then (if (ji18) < (x6_2.length : Int) then (tree_Depth.j2 k2 ji10 x6_2 l0 (l0.length : Int) x18_1 ((rd x6_2 (ji18)) == 0)) else (none)) else (none)) = some r := by first | (rw [hji18] at H; exact H) | (simp only [hji18] at H ⊢; exact H)
            have hji18w : (IntKind.i64.wrap ((x6_2.length : Int) - 1)) = ji18 := (i64_w _).trans hji18
            by_cases c19 : 0 ≤ (ji18)
            ·rw [if_pos c19] at H
             have c19b0 : decide (0 ≤ (ji18)) = true := decide_eq_true c19
             clear c19
             by_cases c20 : (ji18) < (x6_2.length : Int)
             ·rw [if_pos c20] at H
              have c20b0 : decide ((ji18) < (x6_2.length : Int)) = true := decide_eq_true c20
              clear c20
              have H' := am H
              clear H
              obtain ⟨Ao21, co21, eo21⟩ := Kd.R_slice HO_6.out
              subst eo21
              have p562 : 0 ≤ ((ji18) : Int) := of_decide_eq_true yY
              have q562 : (ji18) < (x6_2.length : Int) := of_decide_eq_true yY
              obtain ⟨ad562, e562, hx562_0⟩ := Kd.at_int (Kd.R_reads' HO_6.out).2.2 (ji18) p562 q562
              cases e562
              replace p562 := eq_true p562
              replace q562 := eq_true q562
              go_wp2
              go_meet
              case rel => exact ⟨_, (((rd x6_2 (ji18)) == 0)), (by first | rfl | (simp; done) | (simp only [← hji18] <;> (first | rfl | simp)) | (simp [*]; done)), H', ⟨by have := HK1.out; have := HK2.out; first | omega | exact Nat.le_refl _⟩, ⟨rB HO_6⟩, ⟨kB BK557⟩, ⟨(kL HB)⟩⟩
             ·rw [if_neg c20] at H
              exact absurd H (by simp)
            ·rw [if_neg c19] at H
             exact absurd H (by simp)
           ·rw [if_neg c17] at H
            have c17b0 : decide (0 < (x6_2.length : Int)) = false := decide_eq_false c17
            have c17b1 : decide (0 < x6_2.length) = false := decide_eq_false (by omega)
            clear c17
            (first | rw [c17b0] | (simp only [i64_w, i32_w]; rw [c17b0]) | skip)
            have H' := am H
            clear H
            obtain ⟨Ao22, co22, eo22⟩ := Kd.R_slice HO_6.out
            subst eo22
            go_wp2
            go_meet
            case rel => exact ⟨_, (false), yS, H', ⟨by have := HK1.out; have := HK2.out; first | omega | exact Nat.le_refl _⟩, ⟨rB HO_6⟩, ⟨kB BK557⟩, ⟨(kL HB)⟩⟩
          case rest =>
           clear HC16
           try clear c1
           try clear c2
           try clear p2
           try clear c3
           try clear c5
           try clear c5b0
           try clear p5
           try clear q5
           try clear hx5
           try clear c6
           try clear c6b0
           try clear p6
           try clear c7
           try clear c7b0
           try clear c9
           try clear c17
           try clear c17b0
           try clear c17b1
           try clear c19
           try clear c19b0
           try clear c20
           try clear c20b0
           try clear c21
           try clear hcz12_0
           try clear hcz12_1
           try clear hcz12_2
           try clear hcz12_3
           try clear hcz12_4
           try clear hfz12_0
           try clear hfz12_1
           try clear hfz12_2
           try clear hfz12_3
           try clear hfz12_4
           try clear hx556_0
           try clear hx556_1
           try clear hx556_2
           try clear hx556_3
           try clear hx556_4
           try clear hx562_0
           try clear p2
           try clear p5
           try clear p556
           try clear p562
           try clear q5
           try clear q556
           try clear q562
           obtain ⟨kq, x42_15, rfl, HA, HJ15, HO_6, BK557, HB⟩ := hcut
           cases kq with
           | zero => exact absurd HA.out (by simp [tree_Depth.j2])
           | succ kj15 =>
            have H := HA.out
            clear HA
            simp only [tree_Depth.j2] at H
            by_cases c23 : x42_15 = true
            ·subst c23
             rw [if_pos rfl] at H
             obtain ⟨ji24, hji24⟩ : ∃ j_ : Int, (wrap64 ((x6_2.length : Int) - 1)) = j_ := ⟨_, rfl⟩
             replace H : (if 0 ≤ (ji24) then (if (ji24) ≤ (x6_2.length : Int) then ((some (x6_2.take ((ji24) : Int).toNat : List Int)).bind fun y563 => (if (y563.length : Int) > 0 then (if 0 ≤ (wrap64 ((y563.length : Int) - 1)) then (if (wrap64 ((y563.length : Int) - 1)) < (y563.length : Int) then (tree_Depth.l1 kj15 ji10 (y563.set ((wrap64 ((y563.length : Int) - 1)) : Int).toNat (wrap64 ((rd y563 (wrap64 ((y563.length : Int) - 1))) - 1))) l0 (l0.length : Int) x18_1) else (none)) else (none)) else (tree_Depth.l1 kj15 ji10 y563 l0 (l0.length : Int) x18_1))) else (none)) else (none)) = some r := by first | (rw [hji24] at H; exact H) | (simp only [hji24] at H ⊢; exact H)
             have hji24w : (IntKind.i64.wrap ((x6_2.length : Int) - 1)) = ji24 := (i64_w _).trans hji24
             by_cases c25 : 0 ≤ (ji24)
             ·rw [if_pos c25] at H
              have c25b0 := eq_true c25
              have c25b1 : decide (0 ≤ (ji24)) = true := decide_eq_true c25
              clear c25
              by_cases c26 : (ji24) ≤ (x6_2.length : Int)
              ·rw [if_pos c26] at H
               have c26b0 := eq_true c26
               have c26b1 : decide ((ji24) ≤ (x6_2.length : Int)) = true := decide_eq_true c26
               clear c26
               obtain ⟨y563, hy563⟩ : ∃ y_ : List Int, y_ = (x6_2.take ((ji24) : Int).toNat) := ⟨_, rfl⟩
               replace H : (if (y563.length : Int) > 0 then (if 0 ≤ (wrap64 ((y563.length : Int) - 1)) then (if (wrap64 ((y563.length : Int) - 1)) < (y563.length : Int) then (tree_Depth.l1 kj15 ji10 (y563.set ((wrap64 ((y563.length : Int) - 1)) : Int).toNat (wrap64 ((rd y563 (wrap64 ((y563.length : Int) - 1))) - 1))) l0 (l0.length : Int) x18_1) else (none)) else (none)) else (tree_Depth.l1 kj15 ji10 y563 l0 (l0.length : Int) x18_1)) = some r := by first | (rw [hy563]; with_reducible exact H) | (have H2_ := (Option.bind_some _ _).symm.trans H; rw [hy563]; with_reducible exact H2_) | (have H2_ := (Option.bind_some _ _).symm.trans H; with_reducible exact H2_) | with_reducible exact H | (rw [hy563]; exact H) | exact H
               have Ny563 := am hy563
               clear hy563
               by_cases c27 : (y563.length : Int) > 0
               ·rw [if_pos c27] at H
                have c27b0 : decide (0 < (y563.length : Int)) = true := decide_eq_true c27
                have c27b1 : decide (0 < y563.length) = true := decide_eq_true (by omega)
                clear c27
                obtain ⟨ji28, hji28⟩ : ∃ j_ : Int, (wrap64 ((y563.length : Int) - 1)) = j_ := ⟨_, rfl⟩
                replace H : (if 0 ≤ (ji28) then (if (ji28) < (y563.length : Int) then (tree_Depth.l1 kj15 ji10 (y563.set ((ji28) : Int).toNat (wrap64 ((rd y563 (ji28)) - 1))) l0 (l0.length : Int) x18_1) else (none)) else (none)) = some r := by first | (rw [hji28] at H; exact H) | (simp only [hji28] at H ⊢; exact H)
                have hji28w : (IntKind.i64.wrap ((y563.length : Int) - 1)) = ji28 := (i64_w _).trans hji28
                by_cases c29 : 0 ≤ (ji28)
                ·rw [if_pos c29] at H
                 have c29b0 : decide (0 ≤ (ji28)) = true := decide_eq_true c29
                 clear c29
                 by_cases c30 : (ji28) < (y563.length : Int)
                 ·rw [if_pos c30] at H
                  have c30b0 : decide ((ji28) < (y563.length : Int)) = true := decide_eq_true c30
                  clear c30
                  obtain ⟨y567, hy567⟩ : ∃ y_ : List Int, y_ = (y563.set ((ji28) : Int).toNat (wrap64 ((rd y563 (ji28)) - 1))) := ⟨_, rfl⟩
                  replace H : (tree_Depth.l1 kj15 ji10 y567 l0 (l0.length : Int) x18_1) = some r := by first | (rw [hy567]; with_reducible exact H) | (have H2_ := (Option.bind_some _ _).symm.trans H; rw [hy567]; with_reducible exact H2_) | (have H2_ := (Option.bind_some _ _).symm.trans H; with_reducible exact H2_) | with_reducible exact H | (rw [hy567]; exact H) | exact H
                  have Ny567 := am hy567
                  clear hy567
                  have H' := am H
                  clear H
                  obtain ⟨Ao32, co32, eo32⟩ := Kd.R_slice HO_6.out
                  subst eo32
                  have q33 : ((ji24) : Int) ≤ ((x6_2.length : Int) : Int) := of_decide_eq_true yY
                  obtain ⟨i033, hi033, _, hsz33, _⟩ := info_parts info3
                  have hcut33 := cut_to (P := Try.prog) 32 3 .i64 Try.underlying32 hi033 Ao32 x6_2.length co32 (ji24) (of_decide_eq_true yY) q33 (Kd.R_reads' HO_6.out).2.1
                  have hr33 := Kd.R_take (m := ((ji24) : Int).toNat) HO_6.out (by omega)
                  have hy33 : y563.length = ((ji24) : Int).toNat := (by rw [Ny563.out, List.length_take]; omega)
                  rw [← Ny563.out] at hr33
                  rw [← hy33] at hr33 hcut33
                  clear hy33 hi033 hsz33 HO_6
                  have HO565 := am hr33
                  clear hr33
                  replace q33 := eq_true q33
                  have p566 : 0 ≤ ((ji28) : Int) := of_decide_eq_true yY
                  have q566 : (ji28) < (y563.length : Int) := of_decide_eq_true yY
                  obtain ⟨ad566, e566, hx566_0⟩ := Kd.at_int (Kd.R_reads' HO565.out).2.2 (ji28) p566 q566
                  cases e566
                  replace p566 := eq_true p566
                  replace q566 := eq_true q566
                  have p31 : 0 ≤ ((ji28) : Int) := of_decide_eq_true yY
                  have q31 : ((ji28) : Int) < ((y563.length : Int) : Int) := of_decide_eq_true yY
                  obtain ⟨go31, co31, eo31, gb31, gl31, cl31, HG31⟩ := Kd.R_form HO565.out (by omega)
                  (first | cases eo31 | (injection eo31 with ea_ en_ ec_; (first | subst ea_ | (injection ea_ with ea_; subst ea_)); subst ec_; clear en_))
                  have GB31 := am gb31
                  have GG31 := am HG31
                  clear gb31 gl31 HG31
                  (first | simp only [add_plain] at hx566_0 | skip)
                  obtain ⟨hx31_0, hf31_0⟩ := Kd.R_celln 0 HO565.out ((ji28) : Int) p31 q31
                  replace p31 := eq_true p31
                  replace q31 := eq_true q31
                  have HP34 := Kd.R_putg HO565.out ((ji28) : Int) (wrap64 ((rd y563 (ji28)) - 1))
                  go_wp2_with ((with_reducible refine gate_store (t := 3) (p := 58) rfl ?_); refine store_event (t := 3) (p := 58) (v := ?vo_w35) (w1 := (wc.setCell ⟨go31, ((ji28) : Int).toNat, none⟩ (.int .i64 (wrap64 ((rd y563 (ji28)) - 1))))) ?hg ?ho ?hn ?hr ?_; (case ho => rfl); (case hg => rfl); (case hn => rfl); (case hr => first | (go_simp; done) | (go_simp; rfl)); intro w35 hw; have hg : wc.grownBy w35 (some go31) := (by rw [hw]; exact HP34.2); have hp_ : Kd.R (Kd.int .i64) 3 w35 w.heap.size (fun _ => True) (.slice (some ⟨go31, 0, none⟩) y563.length co32) y567 := (by rw [hw, Ny567.out]; exact HP34.1); clear HP34; replace BK557 := am (blk_grown (g := gb557) (o := .cells #[.int .i64 ((rd_T25 l0 x18_1).f0), .string ((rd_T25 l0 x18_1).f1), .string ((rd_T25 l0 x18_1).f2), .string ((rd_T25 l0 x18_1).f3), .slice A556_4 ((rd_T25 l0 x18_1).f4).length c556_4] 25 (0, 0)) (kB BK557) hg (Kd.R_ne HO565.out BK557.out (by decide))); replace HO565 := am (hp_); replace HB := am ((by rw [hw]; exact below_set (HB.out) GB31.out : Below w.heap.size w w35)); clear hg hw hp_)
                  go_roundg kj15
                  case measure => have := HK1.out; have := HK2.out; have := HJ15.out; omega
                  case rel => exact ⟨(y567), H', ⟨by have := HK1.out; have := HK2.out; have := HJ15.out; omega⟩, ⟨rB HO565⟩, ⟨kB BK557⟩, ⟨(kL HB)⟩⟩
                 ·rw [if_neg c30] at H
                  exact absurd H (by simp)
                ·rw [if_neg c29] at H
                 exact absurd H (by simp)
               ·rw [if_neg c27] at H
                have c27b0 : decide (0 < (y563.length : Int)) = false := decide_eq_false c27
                have c27b1 : decide (0 < y563.length) = false := decide_eq_false (by omega)
                clear c27
                have H' := am H
                clear H
                obtain ⟨Ao36, co36, eo36⟩ := Kd.R_slice HO_6.out
                subst eo36
                have q37 : ((ji24) : Int) ≤ ((x6_2.length : Int) : Int) := of_decide_eq_true yY
                obtain ⟨i037, hi037, _, hsz37, _⟩ := info_parts info3
                have hcut37 := cut_to (P := Try.prog) 32 3 .i64 Try.underlying32 hi037 Ao36 x6_2.length co36 (ji24) (of_decide_eq_true yY) q37 (Kd.R_reads' HO_6.out).2.1
                have hr37 := Kd.R_take (m := ((ji24) : Int).toNat) HO_6.out (by omega)
                have hy37 : y563.length = ((ji24) : Int).toNat := (by rw [Ny563.out, List.length_take]; omega)
                rw [← Ny563.out] at hr37
                rw [← hy37] at hr37 hcut37
                clear hy37 hi037 hsz37 HO_6
                have HO565 := am hr37
                clear hr37
                replace q37 := eq_true q37
                go_wp2
                go_roundg kj15
                case measure => have := HK1.out; have := HK2.out; have := HJ15.out; omega
                case rel => exact ⟨(y563), H', ⟨by have := HK1.out; have := HK2.out; have := HJ15.out; omega⟩, ⟨rB HO565⟩, ⟨kB BK557⟩, ⟨(kL HB)⟩⟩
              ·rw [if_neg c26] at H
               exact absurd H (by simp)
             ·rw [if_neg c25] at H
              exact absurd H (by simp)
            ·replace c23 := Bool.eq_false_iff.mpr c23
             subst c23
             rw [if_neg (show ¬ (false = true) by decide)] at H
             by_cases c38 : (x6_2.length : Int) = 0
             ·rw [if_pos c38] at H
              have c38b0 := eT c38
              have c38b1 := nF c38
              clear c38
              obtain rfl := Option.some.inj H
              obtain ⟨Ao39, co39, eo39⟩ := Kd.R_slice HO_6.out
              subst eo39
              go_wp2
              go_ret
              exact ⟨by first | rfl | (simp [errW_none, errW_some] <;> rfl) | (simp only [← hji10]; first | rfl | (simp [errW_none, errW_some] <;> rfl)) | (simp [*, errW_none, errW_some] <;> rfl), (kL HB)⟩
             ·rw [if_neg c38] at H
              have c38b0 := eF c38
              have c38b1 := nT c38
              have c38b2 : ¬ (x6_2 = []) := fun h_ => c38 (by rw [h_]; rfl)
              have H' := am H
              clear H
              obtain ⟨Ao40, co40, eo40⟩ := Kd.R_slice HO_6.out
              subst eo40
              go_wp2
              go_roundg kj15
              case measure => have := HK1.out; have := HK2.out; have := HJ15.out; omega
              case rel => exact ⟨(ji10), (x6_2), (wrap64 (x18_1 + 1)), (by first | rfl | (simp; done) | (simp only [← hji10] <;> (first | rfl | simp)) | (simp [*]; done)), yS, H', ⟨by have := HK1.out; have := HK2.out; have := HJ15.out; omega⟩, ⟨rB HO_6⟩, ⟨(kL HB)⟩⟩
       ·rw [if_neg c9] at H
        exact absurd H (by simp)
      ·rw [if_neg c7] at H
       exact absurd H (by simp)
     ·rw [if_neg c6] at H
      exact absurd H (by simp)
    ·rw [if_neg c5] at H
     have c5b0 : decide (x18_1 < (l0.length : Int)) = false := decide_eq_false c5
     clear c5
     obtain rfl := Option.some.inj H
     go_wp2
     go_ret
     exact ⟨yE, (kL HB)⟩
 ·replace c3 := Bool.eq_false_iff.mpr c3
  subst c3
  rw [if_neg (show ¬ (false = true) by decide)] at H
  obtain rfl := Option.some.inj H
  go_enter Try.func26, Try.ntmps26
  go_wp2_with ((with_reducible refine gC 19 rfl ?_); refine gL (some 11) Try.func19 #[.slice A0 l0.length c0, .int .i64 0] ?_; (with_reducible refine (tree_End.calls _ _ _ _ _ _ _ _ ?side1 ?side2 A2.out).mono ?_); (case side1 => repeat (first | exact HR0.out | (with_reducible refine Kd.C_alloc ?_ _) | (with_reducible refine Kd.C_drewN ?_ _) | (with_reducible refine Kd.C_drew ?_))); (case side2 => exact HC0.out); rintro e w41 ⟨rfl, hb⟩; refine ⟨_, rfl, ?_⟩; replace HB := am (below_step (kL HB) hb); (try clear hb))
  go_ret
  exact ⟨yE, (kL HB)⟩
end Go.Proofs.Ytdelccahgchadaa.P
end
section
namespace Go.Proofs.Ytdelccahgchadaa
open Go.RowKit Go.Lib Go.Proofs.Ytdelccahgchadaa.P Go.Proofs.YtdelccahgchadaaW.PrintWords Go.Proofs.YtdelccahgchadaaW.PrintMore
set_option linter.unusedVariables false
abbrev Nd := S25
def kdB (f0 : Int) (v : ByteArray) : Int :=
 let b : Int := if v.toList = ([123] : List UInt8) then 1 else 0
 if f0 = 1 ∨ f0 = 2 then 0 else if f0 = 3 then 1 + b else if f0 = 4 then 2 + b else if f0 = 5 ∨ f0 = 7 then 1 else if f0 = 6 ∨ f0 = 8 then 2 else -1
def kdT (x : Nd) : Int := kdB x.f0 x.f1
theorem kdB_bounds (f0 : Int) (v : ByteArray) : -1 ≤ kdB f0 v ∧ kdB f0 v ≤ 3 := by
 unfold kdB
 simp only []
 split <;> (try split) <;> (try split) <;> (try split) <;> (try split) <;> (try split) <;> omega
theorem Kids_eq (f0 : Int) (v a n : ByteArray) (l : List ByteArray) (k : Nat) (hk : 3 ≤ k) : tree_Kids.f k f0 v a n l = some (kdB f0 v) := by
 obtain ⟨k, rfl⟩ : ∃ j, k = j + 3 := ⟨k - 3, by omega⟩
 have h0 : ∀ b : Int, b = 0 ∨ b = 1 → tree_Kids.j0 (k + 3) b f0 v a n l = some (if f0 = 1 ∨ f0 = 2 then 0 else if f0 = 3 then 1 + b else if f0 = 4 then 2 + b else if f0 = 5 ∨ f0 = 7 then 1 else if f0 = 6 ∨ f0 = 8 then 2 else -1) := by
  intro b hb
  have w1 : wrap64 (1 + b) = 1 + b := wrap_id (by omega) (by omega)
  have w2 : wrap64 (2 + b) = 2 + b := wrap_id (by omega) (by omega)
  simp only [tree_Kids.j0, tree_Kids.j1, tree_Kids.j2, w1, w2]
  by_cases h1 : f0 = 1
  ·subst h1; simp
  by_cases h2 : f0 = 2
  ·subst h2; simp
  by_cases h3 : f0 = 3
  ·subst h3; simp
  by_cases h4 : f0 = 4
  ·subst h4; simp
  by_cases h5 : f0 = 5
  ·subst h5; simp
  by_cases h6 : f0 = 6
  ·subst h6; simp
  by_cases h7 : f0 = 7
  ·subst h7; simp
  by_cases h8 : f0 = 8
  ·subst h8; simp
  simp [h1, h2, h3, h4, h5, h6, h7, h8]
 unfold tree_Kids.f kdB
 by_cases hv : v.toList = ([123] : List UInt8)
 ·rw [if_pos hv, if_pos hv]; exact h0 1 (.inr rfl)
 ·rw [if_neg hv, if_neg hv]; exact h0 0 (.inl rfl)
theorem rd_drop (l : List Nd) (i : Nat) (x : Nd) (r : List Nd) (h : l.drop i = x :: r) : rd_T25 l (i : Int) = x ∧ i < l.length ∧ l.drop (i + 1) = r := by
 have hi : i < l.length := by
  have := congrArg List.length h
  rw [List.length_drop, List.length_cons] at this
  omega
 have hd := List.drop_eq_getElem_cons hi
 rw [h] at hd
 injection hd with h1 h2
 refine ⟨?_, hi, h2.symm⟩
 unfold rd_T25
 rw [Int.toNat_natCast, List.getD_eq_getElem?_getD, List.getElem?_eq_getElem hi]
 exact h1.symm
def outE (i : Nat) : Option Nat → Int × Bool
 | none => (0, false)
 | some m => (((i + m : Nat) : Int), true)
theorem End_l0 (l0 : List Nd) (hl : l0.length ≤ 1000000) : ∀ (l : List Nd) (i n k : Nat), l0.drop i = l → n ≤ 3 * i + 1 → i ≤ l0.length → l.length + 5 ≤ k →
  tree_End.l0 k l0 (i : Int) (n : Int) = some (outE i (endW kdT l n)) := by
 intro l
 induction l with
 | nil =>
  intro i n k hd hn hi hk
  obtain ⟨k, rfl⟩ : ∃ j, k = j + 1 := ⟨k - 1, by rw [List.length_nil] at hk; omega⟩
  simp only [tree_End.l0]
  cases n with
  | zero => rw [if_neg (by omega), endW_zero]; rfl
  | succ n =>
   have : l0.length ≤ i := by
    have := congrArg List.length hd
    rw [List.length_drop, List.length_nil] at this
    omega
   rw [if_pos (by omega), if_neg (by omega), if_pos (by omega)]
   rfl
 | cons x l ih =>
  intro i n k hd hn hi hk
  rw [List.length_cons] at hk
  obtain ⟨k, rfl⟩ : ∃ j, k = j + 1 := ⟨k - 1, by omega⟩
  obtain ⟨hr, hlt, hd2⟩ := rd_drop l0 i x l hd
  simp only [tree_End.l0]
  cases n with
  | zero => rw [if_neg (by omega), endW_zero]; rfl
  | succ n =>
   rw [if_pos (by omega), if_neg (by omega), if_neg (by omega), if_pos (by omega), if_pos (by omega), hr, Kids_eq _ _ _ _ _ k (by omega)]
   simp only [Option.bind_some, endW]
   have hb := kdB_bounds x.f0 x.f1
   have hk1 : kdT x = kdB x.f0 x.f1 := rfl
   by_cases h : kdB x.f0 x.f1 < 0
   ·rw [if_pos h, hk1, if_pos h]; rfl
   ·rw [if_neg h, hk1, if_neg h]
    have w1 : wrap64 ((i : Int) + 1) = ((i + 1 : Nat) : Int) := by rw [wrap_id (by omega) (by omega)]; omega
    have w2 : wrap64 (((n + 1 : Nat) : Int) + kdB x.f0 x.f1) = ((n + 1 : Nat) : Int) + kdB x.f0 x.f1 := wrap_id (by omega) (by omega)
    have w3 : wrap64 (((n + 1 : Nat) : Int) + kdB x.f0 x.f1 - 1) = ((n + (kdB x.f0 x.f1).toNat : Nat) : Int) := by rw [wrap_id (by omega) (by omega)]; omega
    rw [w1, w2, w3]
    clear w1 w2 w3
    rw [ih (i + 1) (n + (kdB x.f0 x.f1).toNat) k hd2 (by omega) (by omega) (by omega)]
    cases endW kdT l (n + (kdB x.f0 x.f1).toNat) with
    | none => rfl
    | some m => simp only [outE, Option.map_some]; congr 2; omega
theorem End_eq (l0 : List Nd) (hl : l0.length ≤ 1000000) (i : Nat) (hi : i ≤ l0.length) (k : Nat) (hk : l0.length + 5 ≤ k) : tree_End.f k l0 (i : Int) = some (outE i (endW kdT (l0.drop i) 1)) := by
 unfold tree_End.f
 exact End_l0 l0 hl (l0.drop i) i 1 k rfl (by omega) hi (by rw [List.length_drop]; omega)
def encS : List Nat → List Int
 | [] => []
 | c :: st => encS st ++ [(c : Int)]
theorem encS_len (st : List Nat) : (encS st).length = st.length := by
 induction st with
 | nil => rfl
 | cons c st ih => simp [encS, ih]
theorem rd_last (l : List Int) (c : Int) : rd (l ++ [c]) (l.length : Int) = c := by
 simp [rd]
theorem mx_nat (a b : Nat) : mx (a : Int) (b : Int) = ((max a b : Nat) : Int) := by
 unfold mx
 split <;> omega
theorem dec_len (st : List Nat) : (dec st).length ≤ st.length := by
 induction st with
 | nil => exact Nat.le_refl _
 | cons c st ih => simp only [dec]; split <;> simp only [List.length_cons] <;> omega
theorem dec_le3 (st : List Nat) (h : ∀ c ∈ st, 1 ≤ c ∧ c ≤ 3) : ∀ c ∈ dec st, 1 ≤ c ∧ c ≤ 3 := by
 induction st with
 | nil => intro c hc; cases hc
 | cons c st ih =>
  have hc := h c List.mem_cons_self
  simp only [dec]
  split
  ·exact ih fun d hd => h d (List.mem_cons_of_mem _ hd)
  ·intro d hd
   rcases List.mem_cons.1 hd with e | e
   ·omega
   ·exact h d (List.mem_cons_of_mem _ e)
theorem Depth_open (l0 : List Nd) (i most c : Nat) (st : List Nat) (k : Nat) (hc : 1 ≤ c) (hl : st.length ≤ 1000000) :
  tree_Depth.l1 (k + 2) (most : Int) (encS (c :: st)) l0 (l0.length : Int) (i : Int) = tree_Depth.l0 k (most : Int) (encS (c :: st)) l0 (l0.length : Int) (wrap64 ((i : Int) + 1)) := by
 have len2 : (encS (c :: st)).length = st.length + 1 := by rw [encS_len]; rfl
 have hw2 : wrap64 (((st.length + 1 : Nat) : Int) - 1) = (st.length : Int) := by rw [wrap_id (by omega) (by omega)]; omega
 have hr2 : rd (encS (c :: st)) (st.length : Int) = (c : Int) := by
  have := rd_last (encS st) (c : Int)
  rw [encS_len] at this
  exact this
 simp only [tree_Depth.l1, tree_Depth.j2, len2, hw2, hr2]
 clear hw2
 have hb : ((c : Int) == 0) = false := by simp; omega
 rw [if_pos (by omega), if_pos (by omega), if_pos (by omega), hb, if_neg (by decide), if_neg (by omega)]
theorem Depth_done (l0 : List Nd) (i most : Nat) : ∀ (st : List Nat) (k : Nat), (∀ c ∈ st, 1 ≤ c ∧ c ≤ 3) → st.length ≤ 1000000 → 2 * st.length + 4 ≤ k →
  ∃ k', k ≤ k' + 2 * (st.length + 1 - (dec st).length) + 2 ∧ tree_Depth.l1 k (most : Int) (encS (0 :: st)) l0 (l0.length : Int) (i : Int) = (match dec st with | [] => some (most : Int) | s :: st' => tree_Depth.l0 k' (most : Int) (encS (s :: st')) l0 (l0.length : Int) (wrap64 ((i : Int) + 1))) := by
 intro st
 induction st with
 | nil =>
  intro k _ _ hk
  obtain ⟨k, rfl⟩ : ∃ j, k = j + 4 := ⟨k - 4, by omega⟩
  refine ⟨k, by simp only [dec, List.length_nil]; omega, ?_⟩
  simp [tree_Depth.l1, tree_Depth.j2, encS, dec, rd, wrap64]
 | cons c st ih =>
  intro k hs hl hk
  rw [List.length_cons] at hl hk
  obtain ⟨k, rfl⟩ : ∃ j, k = j + 2 := ⟨k - 2, by omega⟩
  have hc := hs c List.mem_cons_self
  have e1 : encS (0 :: c :: st) = encS (c :: st) ++ [(0 : Int)] := rfl
  have len1 : (encS (0 :: c :: st)).length = st.length + 2 := by rw [encS_len]; rfl
  have hw : wrap64 (((st.length + 2 : Nat) : Int) - 1) = ((st.length + 1 : Nat) : Int) := by rw [wrap_id (by omega) (by omega)]; omega
  have hr : rd (encS (0 :: c :: st)) ((st.length + 1 : Nat) : Int) = 0 := by
   have := rd_last (encS (c :: st)) 0
   rw [encS_len, List.length_cons] at this
   exact this
  have ht : (encS (0 :: c :: st)).take (((st.length + 1 : Nat) : Int)).toNat = encS (c :: st) := by
   rw [Int.toNat_natCast, e1, List.take_append_of_le_length (by rw [encS_len, List.length_cons]; omega), List.take_of_length_le (by rw [encS_len, List.length_cons]; omega)]
  have len2 : (encS (c :: st)).length = st.length + 1 := by rw [encS_len]; rfl
  have hw2 : wrap64 (((st.length + 1 : Nat) : Int) - 1) = (st.length : Int) := by rw [wrap_id (by omega) (by omega)]; omega
  have hr2 : rd (encS (c :: st)) (st.length : Int) = (c : Int) := by
   have := rd_last (encS st) (c : Int)
   rw [encS_len] at this
   exact this
  have hw3 : wrap64 ((c : Int) - 1) = ((c - 1 : Nat) : Int) := by rw [wrap_id (by omega) (by omega)]; omega
  have hset : (encS (c :: st)).set ((st.length : Int)).toNat ((c - 1 : Nat) : Int) = encS ((c - 1) :: st) := by
   rw [Int.toNat_natCast]
   simp only [encS]
   rw [List.set_append_right _ _ (by rw [encS_len]; omega), encS_len, Nat.sub_self]
   rfl
  have step : tree_Depth.l1 (k + 2) (most : Int) (encS (0 :: c :: st)) l0 (l0.length : Int) (i : Int) = tree_Depth.l1 k (most : Int) (encS ((c - 1) :: st)) l0 (l0.length : Int) (i : Int) := by
   rw [tree_Depth.l1, len1, hw, hr, tree_Depth.j2, len1, hw, ht]
   simp only [Option.bind_some]
   rw [len2, hw2, hr2, hw3, hset]
   clear hw hw2 hw3
   rw [if_pos (by omega), if_pos (by omega), if_pos (by omega), if_pos (by rfl), if_pos (by omega), if_pos (by omega), if_pos (by omega), if_pos (by omega), if_pos (by omega)]
  rw [step]
  clear hw hw2 hw3
  simp only [dec]
  by_cases h1 : c ≤ 1
  ·rw [if_pos h1]
   have e : c - 1 = 0 := by omega
   rw [e]
   obtain ⟨k', hk', he⟩ := ih k (fun d hd => hs d (List.mem_cons_of_mem _ hd)) (by omega) (by omega)
   have hdl := dec_len st
   exact ⟨k', by rw [List.length_cons]; omega, he⟩
  ·rw [if_neg h1]
   obtain ⟨k, rfl⟩ : ∃ j, k = j + 2 := ⟨k - 2, by omega⟩
   exact ⟨k, by simp only [List.length_cons]; omega, Depth_open l0 i most (c - 1) st k (by omega) (by omega)⟩
theorem Depth_l0 (l0 : List Nd) (hl : l0.length ≤ 1000000) : ∀ (l : List Nd) (i most k : Nat) (st : List Nat), l0.drop i = l → i ≤ l0.length → (∀ c ∈ st, 1 ≤ c ∧ c ≤ 3) → st.length ≤ i → (endW kdT l (need st)).isSome = true → 5 * l.length + 2 * st.length + 8 ≤ k →
  tree_Depth.l0 k (most : Int) (encS st) l0 (l0.length : Int) (i : Int) = some ((mach kdT l st most : Nat) : Int) := by
 intro l
 induction l with
 | nil =>
  intro i most k st hd hi hs hsl he hk
  have := need_pos st
  obtain ⟨n, hn⟩ : ∃ n, need st = n + 1 := ⟨need st - 1, by omega⟩
  rw [hn] at he
  cases he
 | cons x l ih =>
  intro i most k st hd hi hs hsl he hk
  rw [List.length_cons] at hk
  obtain ⟨k, rfl⟩ : ∃ j, k = j + 1 := ⟨k - 1, by omega⟩
  obtain ⟨hr, hlt, hd2⟩ := rd_drop l0 i x l hd
  have hp := need_pos st
  obtain ⟨n, hn⟩ : ∃ n, need st = n + 1 := ⟨need st - 1, by omega⟩
  have hb := kdB_bounds x.f0 x.f1
  have hk1 : kdT x = kdB x.f0 x.f1 := rfl
  rw [hn] at he
  simp only [endW] at he
  by_cases hx : kdT x < 0
  ·rw [if_pos hx] at he; cases he
  rw [if_neg hx] at he
  have he2 : (endW kdT l (n + (kdT x).toNat)).isSome = true := by
   cases h : endW kdT l (n + (kdT x).toNat) with
   | none => rw [h] at he; cases he
   | some m => rfl
  obtain ⟨c, hc⟩ : ∃ c, (kdT x).toNat = c := ⟨_, rfl⟩
  have hkc : kdB x.f0 x.f1 = (c : Int) := by omega
  have henc : encS st ++ [(c : Int)] = encS (c :: st) := rfl
  have hlen : (encS (c :: st)).length = st.length + 1 := by rw [encS_len]; rfl
  have hlim : (encS st).length < 17592186044416 := Nat.lt_of_le_of_lt (by rw [encS_len]; omega : (encS st).length ≤ 1000000) (by decide)
  simp only [tree_Depth.l0]
  rw [if_pos (by omega), if_pos (by omega), if_pos (by omega), hr, Kids_eq _ _ _ _ _ k (by omega), hkc]
  simp only [Option.bind_some]
  rw [if_pos hlim, henc, hlen, mx_nat]
  clear hlim
  by_cases h0 : c = 0
  ·subst h0
   obtain ⟨k', hk', e⟩ := Depth_done l0 i (max most (st.length + 1)) st k hs (by omega) (by omega)
   have w1 : wrap64 ((i : Int) + 1) = ((i + 1 : Nat) : Int) := by rw [wrap_id (by omega) (by omega)]; omega
   rw [e, w1, mach_cons0 kdT x l st most hc]
   clear w1 e
   unfold fin
   have hdl := dec_len st
   have hdn := dec_need st (fun d hd => (hs d hd).1)
   cases hds : dec st with
   | nil => rfl
   | cons s st' =>
    simp only []
    have h3 := dec_le3 st hs
    rw [hds] at h3 hdl hdn hk'
    have hne := hdn.2.1 (by simp)
    simp only [List.length_cons] at hdl hk'
    exact ih (i + 1) (max most (st.length + 1)) k' (s :: st') hd2 (by omega) h3 (by rw [List.length_cons]; omega) (by rw [hne, hn]; rw [hc] at he2; simpa using he2) (by rw [List.length_cons]; omega)
  ·obtain ⟨k, rfl⟩ : ∃ j, k = j + 2 := ⟨k - 2, by omega⟩
   have hdo := Depth_open l0 i (max most (st.length + 1)) c st k (by omega) (by omega)
   have hms := mach_consS kdT x l st most (by omega)
   have w1 : wrap64 ((i : Int) + 1) = ((i + 1 : Nat) : Int) := by rw [wrap_id (by omega) (by omega)]; omega
   rw [hdo, w1, hms, hc]
   clear w1 hdo hms
   exact ih (i + 1) _ k (c :: st) hd2 (by omega) (by
    intro d hd
    rcases List.mem_cons.1 hd with e | e
    ·omega
    ·exact hs d e) (by rw [List.length_cons]; omega) (by
    simp only [need]
    rw [hn, show c - 1 + (n + 1) = n + c by omega, ← hc]
    exact he2) (by rw [List.length_cons]; omega)
theorem Depth_eq (l0 : List Nd) (hl : l0.length ≤ 1000000) (k : Nat) (hk : 5 * l0.length + 10 ≤ k) : tree_Depth.f k l0 = some ((depL kdT l0 : Nat) : Int) := by
 unfold tree_Depth.f depL
 have e0 : (0 : Int) = ((0 : Nat) : Int) := rfl
 have := End_eq l0 hl 0 (by omega) k (by omega)
 rw [List.drop_zero, ← e0] at this
 rw [this]
 simp only [Option.bind_some]
 cases h : endW kdT l0 1 with
 | none => simp [outE]
 | some m =>
  simp only [outE]
  rw [if_pos trivial]
  exact Depth_l0 l0 hl l0 0 0 k [] rfl (by omega) (fun c hc => by cases hc) (by simp) (by simp only [need]; rw [h]; rfl) (by rw [List.length_nil]; omega)
end Go.Proofs.Ytdelccahgchadaa
end
section
namespace Go.Proofs.Ytdelccahgchadaa.P
open Go.RowKit Go.Proofs.YtdelccahgchadaaW.PrintWords Go.Proofs.YtdelccahgchadaaW.PrintLast Go.Proofs.YtdelccahgchadaaW.PrintMore
attribute [local go_sem] max2_int min2_int max_two min_two max_three min_three max_four min_four   
set_option linter.unusedVariables false
set_option linter.unusedSimpArgs false
end Go.Proofs.Ytdelccahgchadaa.P
end
section
namespace Go.Proofs.Ytdelccahgchadaa.P
open Go.RowKit Go.Proofs.YtdelccahgchadaaW.PrintWords Go.Proofs.YtdelccahgchadaaW.PrintLast Go.Proofs.YtdelccahgchadaaW.PrintMore
attribute [local go_sem] max2_int min2_int max_two min_two max_three min_three max_four min_four   
set_option linter.unusedVariables false
set_option linter.unusedSimpArgs false
end Go.Proofs.Ytdelccahgchadaa.P
end
section
namespace Go.Proofs.Ytdelccahgchadaa
open Go.RowKit Go.Lib Go.Proofs.Ytdelccahgchadaa.P Go.Proofs.YtdelccahgchadaaW.PrintWords Go.Proofs.YtdelccahgchadaaW.PrintMore
set_option linter.unusedVariables false
theorem rdS_get (l : List ByteArray) (i : Nat) (h : i < l.length) : rdOf ByteArray.empty l (i : Int) = l[i] := by
 unfold rdOf
 rw [Int.toNat_natCast, List.getD_eq_getElem?_getD, List.getElem?_eq_getElem h]
 rfl
end Go.Proofs.Ytdelccahgchadaa
end
section
namespace Go.Proofs.Ytdelccahgchadaa.P
open Go.RowKit Go.Proofs.YtdelccahgchadaaW.PrintWords Go.Proofs.YtdelccahgchadaaW.PrintLast Go.Proofs.YtdelccahgchadaaW.PrintMore
attribute [local go_sem] max2_int min2_int max_two min_two max_three min_three max_four min_four   
set_option linter.unusedVariables false
set_option linter.unusedSimpArgs false
end Go.Proofs.Ytdelccahgchadaa.P
end
section
namespace Go.Proofs.Ytdelccahgchadaa.P
open Go.RowKit Go.Proofs.YtdelccahgchadaaW.PrintWords Go.Proofs.YtdelccahgchadaaW.PrintLast Go.Proofs.YtdelccahgchadaaW.PrintMore
attribute [local go_sem] max2_int min2_int max_two min_two max_three min_three max_four min_four   
set_option linter.unusedVariables false
set_option linter.unusedSimpArgs false
end Go.Proofs.Ytdelccahgchadaa.P
end
