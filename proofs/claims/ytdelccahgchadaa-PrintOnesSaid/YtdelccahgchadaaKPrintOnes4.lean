/- What the law PrintOnes rests on, part 5. -/
import Derived.Test.YtdelccahgchadaaKPrintOnes3
import Derived.Maps.Own
import Derived.ProofKit
import Derived.OpenShut
import Derived.ShutString
import Derived.ChangeOld
import Derived.SizedLaws
import Derived.ChangeSlices
import Derived.Deep.Slices
set_option linter.unusedVariables false
set_option linter.unusedSimpArgs false
section
namespace Go.Proofs.Ytdelccahgchadaa.P
open Go.RowKit Go.Proofs.YtdelccahgchadaaW.PrintWords Go.Proofs.YtdelccahgchadaaW.PrintLast Go.Proofs.YtdelccahgchadaaW.PrintMore
attribute [local go_sem] max2_int min2_int max_two min_two max_three min_three max_four min_four   
set_option linter.unusedVariables false
set_option linter.unusedSimpArgs false
def parse_parser_exprB.f (EXF : EX_F) (k : Nat) (s0_0 : List (S71)) (s0_1 : Int) (s0_2 : Int) (s0_3 : Bool) : Option ((List (S25)) × Int × Int × Bool) := (parse_parser_verbs.f s0_0 s0_1 s0_2 s0_3).bind fun bt255 => (if bt255.1 = true then ((parse_parser_verb.f EXF k s0_0 bt255.2.1 bt255.2.2.1 bt255.2.2.2 3 (⟨#[39, 47, 92, 96]⟩ : ByteArray)).bind fun bt259 => ((EXF s0_0 bt259.2.2.2.2.2.2.1 bt259.2.2.2.2.2.2.2.1 bt259.2.2.2.2.2.2.2.2).bind fun bt273 => ((tree_Node.f k bt259.1 bt259.2.1 bt259.2.2.1 bt259.2.2.2.1 bt259.2.2.2.2.1 (([bt259.2.2.2.2.2.1, bt273.1] : List (List (S25))))).bind fun t282 => (some (t282, bt273.2.1, bt273.2.2.1, bt273.2.2.2))))) else ((parse_parser_term.f EXF k s0_0 bt255.2.1 bt255.2.2.1 bt255.2.2.2).bind fun bt285 => ((parse_parser_verbs.f s0_0 bt285.2.1 bt285.2.2.1 bt285.2.2.2).bind fun bt291 => (if bt291.1 = true then ((parse_parser_verb.f EXF k s0_0 bt291.2.1 bt291.2.2.1 bt291.2.2.2 4 (⟨#[39, 46]⟩ : ByteArray)).bind fun bt295 => ((EXF s0_0 bt295.2.2.2.2.2.2.1 bt295.2.2.2.2.2.2.2.1 bt295.2.2.2.2.2.2.2.2).bind fun bt309 => ((tree_Node.f k bt295.1 bt295.2.1 bt295.2.2.1 bt295.2.2.2.1 bt295.2.2.2.2.1 (([bt295.2.2.2.2.2.1, bt285.1, bt309.1] : List (List (S25))))).bind fun t318 => (some (t318, bt309.2.1, bt309.2.2.1, bt309.2.2.2))))) else (some (bt285.1, bt291.2.1, bt291.2.2.1, bt291.2.2.2))))))
theorem parse_parser_exprB.mono (EXF : EX_F) : ∀ a0 a1 a2 a3 k, LeO (parse_parser_exprB.f EXF k a0 a1 a2 a3) (parse_parser_exprB.f EXF (k + 1) a0 a1 a2 a3) := by
 intro a0 a1 a2 a3 k
 unfold parse_parser_exprB.f
 with_reducible repeat' first
   | exact parse_parser_term.mono EXF _ _ _ _ _
   | exact parse_parser_verb.mono EXF _ _ _ _ _ _ _
   | exact tree_Node.mono _ _ _ _ _ _ _
   | exact LeO.refl _
   | exact LeO.none _
   | refine LeO.ite ?_ ?_
   | refine LeO.bind ?_ (fun _ => ?_)
def parse_parser_exprB.T8 : Bool × List (List Nat × List Nat) := (true, [([], []), ([], []), ([], []), ([], []), ([3], [3]), ([1, 2, 4], [1, 2, 4]), ([0, 5, 4], [0, 5]), ([6, 6, 0, 1, 2, 3, 4, 5, 6], [6])])
def parse_parser_exprB.B8 : List Nat := [0, 0, 0, 0, 8, 30, 63, 127]
theorem parse_parser_exprB.tab8 : rtab .any (opsOf Try.f93 8) = parse_parser_exprB.T8 := by kernel_rfl
theorem parse_parser_exprB.bits8 : waitsOk parse_parser_exprB.T8.2 parse_parser_exprB.B8 = true := by kernel_rfl
set_option maxHeartbeats 8000000 in
set_option maxRecDepth 100000 in
theorem parse_parser_exprB.calls (EXF : EX_F) (EXC : EX_C EXF) (k : Nat) (g : Nat) (s0_0 : List (S71)) (s0_1 : Int) (s0_2 : Int) (s0_3 : Bool) (r1 : List (S25)) (r2 : Int) (r3 : Int) (r4 : Bool) (w0 w : World) (hI : IsS83 w0 w g s0_0 s0_1 s0_2 s0_3) (hB : Below w0.heap.size w0 w) (h : parse_parser_exprB.f EXF k s0_0 s0_1 s0_2 s0_3 = some (r1, r2, r3, r4)) :
  Calls Try.prog 93 #[.pointer (some ⟨g, 0, none⟩)] w fun e w' => ∃ v0_ : Value, e = .returned (v0_) ∧ Kd.N k25 25 w' w.heap.size (fun k_ => (w.heap.size ≤ k_)) v0_ r1 ∧ IsS83 w0 w' g s0_0 r2 r3 r4 ∧ Below w0.heap.size w0 w' ∧ KeepBut w w' g none := by
 have hu25 := Try.underlying25
 have HI0 := am hI
 have HK := am (KeepBut.refl w g none)
 have HL := am hB.size
 clear hI
 have HW0 := am hB.size
 have HB := am hB
 clear hB
 unfold parse_parser_exprB.f at h
 have H := h
 clear h
 obtain ⟨⟨t255, t256, t257, t258⟩, A2, H⟩ := bO H
 try dsimp only at H
 by_cases c3 : t255 = true
 ·subst c3
  rw [if_pos rfl] at H
  obtain ⟨⟨t259, t260, t261, t262, t263, t266, t269, t270, t271⟩, A4, H⟩ := bO H
  try dsimp only at H
  obtain ⟨⟨t273, t276, t277, t278⟩, A5, H⟩ := bO H
  try dsimp only at H
  obtain ⟨y279, hy279⟩ : ∃ y_ : List (List (S25)), y_ = (([t266, t273] : List (List (S25)))) := ⟨_, rfl⟩
  replace H : ((tree_Node.f k t259 t260 t261 t262 t263 y279).bind fun t282 => (some (t282, t276, t277, t278))) = some (r1, r2, r3, r4) := by first | (rw [hy279]; with_reducible exact H) | (have H2_ := (Option.bind_some _ _).symm.trans H; rw [hy279]; with_reducible exact H2_) | (have H2_ := (Option.bind_some _ _).symm.trans H; with_reducible exact H2_) | with_reducible exact H | (rw [hy279]; exact H) | exact H
  have Ny279 := am hy279
  clear hy279
  obtain ⟨t282, A6, H⟩ := bO H
  try dsimp only at H
  simp only [Option.some.injEq, Prod.mk.injEq] at H
  obtain ⟨rfl, rfl, rfl, rfl⟩ := H
  go_enter Try.func93, Try.ntmps93
  try go_wp2_with (first | ((with_reducible refine gC 110 rfl ?_); refine gL (some 9) Try.func110 #[.pointer (some ⟨g, 0, none⟩)] ?_; (with_reducible refine (parse_parser_verbs.calls _ _ _ _ _ _ _ _ _ w0 _ ?side1 ?side2 A2.out).mono ?_); (case side1 => exact yI); (case side2 => exact (kLI HB)); rintro e w7 ⟨rfl, hi, hb, hk⟩; refine ⟨_, rfl, ?_⟩; replace HK := am (KeepBut.trans (kK HK) hk (.inl rfl)); replace HB := am hb; replace HI0 := am hi; (try clear hi hb hk)) | ((with_reducible refine gC 111 rfl ?_); refine gL (some 12) Try.func111 #[.pointer (some ⟨g, 0, none⟩), .int .i64 3, .string (⟨#[39, 47, 92, 96]⟩ : ByteArray)] ?_; (with_reducible refine (parse_parser_verb.calls EXF EXC _ _ _ _ _ _ _ _ _ _ _ _ _ _ _ _ _ w0 _ ?side1 ?side2 A4.out).mono ?_); (case side1 => exact yI); (case side2 => exact (kLI HB)); rintro e w8 ⟨v264, v267, rfl, ho0, ho1, hi, hb, hk⟩; refine ⟨_, rfl, ?_⟩; have HO265 := am (Kd.R_lower (Kd.R_newM (M := fun k_ => (w.heap.size ≤ k_)) (Kd.R_mono (ok' := fun k_ => True) ho0 (fun _ hk_ => trivial)) (keep_size (w := w) (g := g) (row := none) (kK HK)) (fun k_ h_ => h_)) (keep_size (w := w) (g := g) (row := none) (kK HK))); have HO268 := am (Kd.N_lower (Kd.N_mono (ok' := fun k_ => (w.heap.size ≤ k_) ∧ some k_ ≠ (v264 : Value).ownBlock ∧ k_ ≠ g) ho1 (fun k_ hk_ => ⟨(Nat.le_trans (keep_size (w := w) (g := g) (row := none) (kK HK)) hk_.1), hk_.2, (IsS83.fresh yI k_ hk_.1)⟩)) (keep_size (w := w) (g := g) (row := none) (kK HK))); replace HK := am (KeepBut.trans (kK HK) hk (.inl rfl)); replace HB := am hb; replace HI0 := am hi; (try clear ho0 ho1 hi hb hk)) | ((with_reducible refine gD 3 rfl ?_); refine bx 3 #[.int .i64 0, .string (⟨#[]⟩ : ByteArray), .string (⟨#[]⟩ : ByteArray), .string (⟨#[]⟩ : ByteArray), .slice none 0 0] 25 ?_; intro gb272 hg w9 hbox hb; replace HO265 := am (Kd.R_below (rB HO265) hb); replace HO268 := am (Kd.N_below (Kd.N_elderB (nB HO268) gb272 (Nat.le_of_eq hg.symm)) hb); replace HB := am (below_step (kLI HB) hb); have BK272 := am hbox; have GW272 := am ((by rw [hg]; exact (keep_size (w := w) (g := g) (row := none) (kK HK)) : w.heap.size ≤ gb272)); have GE272 := am ((Nat.le_trans HW0.out (by rw [hg]; exact (keep_size (w := w) (g := g) (row := none) (kK HK)) : w.heap.size ≤ gb272) : w0.heap.size ≤ gb272)); replace HK := am (KeepBut.trans (kK HK) (KeepBut.of_below hb g none) (.inl rfl)); have NB0_272 := am ((by rw [hg]; exact Nat.ne_of_lt (IsS83.lt (show IsS83 w0 _ g s0_0 t269 t270 t271 from yI)) : g ≠ gb272)); have NB272_0 := am ((by rw [hg]; exact Nat.ne_of_gt (IsS83.lt (show IsS83 w0 _ g s0_0 t269 t270 t271 from yI)) : gb272 ≠ g)); replace HI0 := am (IsS83.below yI hb); clear hb hbox hg; have hnb10 := NB272_0.out; have hnc10 := NB0_272.out; obtain ⟨hcz11_0, hcz11_1, hcz11_2, hcz11_3, hcz11_4, hfz11_0, hfz11_1, hfz11_2, hfz11_3, hfz11_4⟩ := bk5 BK272.out; obtain ⟨Ao12, co12, eo12⟩ := Kd.R_slice HO265.out; subst eo12))
  have n0_ : Aside0 (Kd.R Kd.string 9 (((((w9.setCell ⟨gb272, 0, none⟩ (.int .i64 t259)).setCell ⟨gb272, 1, none⟩ (.string t260)).setCell ⟨gb272, 2, none⟩ (.string t261)).setCell ⟨gb272, 3, none⟩ (.string t262)).setCell ⟨gb272, 4, none⟩ (.slice Ao12 t263.length co12)) w.heap.size (fun k_ => (w.heap.size ≤ k_)) (.slice Ao12 t263.length co12) t263) := ⟨by (with_reducible repeat (first | apply Kd.R_alloc | apply Kd.R_drewN | apply Kd.R_drew)); exact Kd.R_mono (Kd.R_far (p := ⟨gb272, 4, none⟩) (Kd.R_far (p := ⟨gb272, 3, none⟩) (Kd.R_far (p := ⟨gb272, 2, none⟩) (Kd.R_far (p := ⟨gb272, 1, none⟩) (Kd.R_far (p := ⟨gb272, 0, none⟩) (Kd.R_types HO265.out BK272.out (by decide)) (fun _ hk => hk.2) (.int .i64 t259)) (fun _ hk => hk.2) (.string t260)) (fun _ hk => hk.2) (.string t261)) (fun _ hk => hk.2) (.string t262)) (fun _ hk => hk.2) (.slice Ao12 t263.length co12)) (fun _ hk => hk.1.1)⟩
  have n1_ : Aside0 (Kd.N k25 25 (((((w9.setCell ⟨gb272, 0, none⟩ (.int .i64 t259)).setCell ⟨gb272, 1, none⟩ (.string t260)).setCell ⟨gb272, 2, none⟩ (.string t261)).setCell ⟨gb272, 3, none⟩ (.string t262)).setCell ⟨gb272, 4, none⟩ (.slice Ao12 t263.length co12)) w.heap.size (fun k_ => (w.heap.size ≤ k_) ∧ some k_ ≠ (.slice Ao12 t263.length co12 : Value).ownBlock ∧ k_ ≠ g ∧ k_ ≠ gb272) v267 t266) := ⟨by (with_reducible repeat (first | apply Kd.N_alloc | apply Kd.N_drewN | apply Kd.N_drew)); exact Kd.N_mono (Kd.N_far (p := ⟨gb272, 4, none⟩) (Kd.N_far (p := ⟨gb272, 3, none⟩) (Kd.N_far (p := ⟨gb272, 2, none⟩) (Kd.N_far (p := ⟨gb272, 1, none⟩) (Kd.N_far (p := ⟨gb272, 0, none⟩) (Kd.N_mono HO268.out (fun k_ hk => (⟨hk, hk.2⟩ : _ ∧ k_ ≠ gb272))) (fun _ hk => hk.2) (.int .i64 t259)) (fun _ hk => hk.2) (.string t260)) (fun _ hk => hk.2) (.string t261)) (fun _ hk => hk.2) (.string t262)) (fun _ hk => hk.2) (.slice Ao12 t263.length co12)) (fun _ hk => ⟨hk.1.1.1, ⟨hk.1.1.2.1, ⟨hk.1.1.2.2, hk.1.2⟩⟩⟩)⟩
  have n2_ : Aside0 ((((((w9.setCell ⟨gb272, 0, none⟩ (.int .i64 t259)).setCell ⟨gb272, 1, none⟩ (.string t260)).setCell ⟨gb272, 2, none⟩ (.string t261)).setCell ⟨gb272, 3, none⟩ (.string t262)).setCell ⟨gb272, 4, none⟩ (.slice Ao12 t263.length co12)).heap[gb272]? = some (.cells #[.int .i64 t259, .string t260, .string t261, .string t262, .slice Ao12 t263.length co12] 25 (0, 0))) := ⟨kM BK272⟩
  have n3_ : Aside0 (IsS83 w0 (((((w9.setCell ⟨gb272, 0, none⟩ (.int .i64 t259)).setCell ⟨gb272, 1, none⟩ (.string t260)).setCell ⟨gb272, 2, none⟩ (.string t261)).setCell ⟨gb272, 3, none⟩ (.string t262)).setCell ⟨gb272, 4, none⟩ (.slice Ao12 t263.length co12)) g s0_0 t269 t270 t271) := ⟨yI⟩
  have n4_ : Aside0 (KeepBut w (((((w9.setCell ⟨gb272, 0, none⟩ (.int .i64 t259)).setCell ⟨gb272, 1, none⟩ (.string t260)).setCell ⟨gb272, 2, none⟩ (.string t261)).setCell ⟨gb272, 3, none⟩ (.string t262)).setCell ⟨gb272, 4, none⟩ (.slice Ao12 t263.length co12)) g none) := ⟨(kK HK)⟩
  have n5_ : Aside0 (Below w0.heap.size w0 (((((w9.setCell ⟨gb272, 0, none⟩ (.int .i64 t259)).setCell ⟨gb272, 1, none⟩ (.string t260)).setCell ⟨gb272, 2, none⟩ (.string t261)).setCell ⟨gb272, 3, none⟩ (.string t262)).setCell ⟨gb272, 4, none⟩ (.slice Ao12 t263.length co12))) := ⟨(kLI HB)⟩
  (try clear HO265)
  (try clear HO268)
  (try clear BK272)
  (try clear HI0)
  (try clear HK)
  (try clear HB)
  generalize (((((w9.setCell ⟨gb272, 0, none⟩ (.int .i64 t259)).setCell ⟨gb272, 1, none⟩ (.string t260)).setCell ⟨gb272, 2, none⟩ (.string t261)).setCell ⟨gb272, 3, none⟩ (.string t262)).setCell ⟨gb272, 4, none⟩ (.slice Ao12 t263.length co12)) = w13 at n0_ n1_ n2_ n3_ n4_ n5_ ⊢
  have HO265 := n0_
  have HO268 := n1_
  have BK272 := n2_
  have HI0 := n3_
  have HK := n4_
  have HB := n5_
  clear n0_ n1_ n2_ n3_ n4_ n5_
  replace HO265 := am (Kd.R_drew HO265.out)
  replace HO268 := am (Kd.N_drew HO268.out)
  replace BK272 := am (bD BK272.out)
  replace HI0 := am (IsS83.drew HI0.out)
  replace HK := am (keep_drew HK.out)
  replace HB := am (lD HB.out)
  refine start_ (n := 7) (S := fun w' => w'.cell? ⟨gb272, 0, none⟩ = some (.int .i64 t259) ∧ w'.cell? ⟨gb272, 1, none⟩ = some (.string t260) ∧ w'.cell? ⟨gb272, 2, none⟩ = some (.string t261) ∧ w'.cell? ⟨gb272, 3, none⟩ = some (.string t262) ∧ w'.cell? ⟨gb272, 4, none⟩ = some (.slice Ao12 t263.length co12)) (ds := []) #[false, false, false, false, false, false, false] (by kernel_rfl) rfl rfl ⟨(blk_cell BK272.out 0).trans rfl, (blk_cell BK272.out 1).trans rfl, (blk_cell BK272.out 2).trans rfl, (blk_cell BK272.out 3).trans rfl, (blk_cell BK272.out 4).trans rfl⟩ (fun hHeld => ?_)
  generalize w13.drew = w14 at HO265 HO268 BK272 HI0 HK HB hHeld ⊢
  refine pure_ (i := 1) (N := some 16) (v := ?_) (a' := ?_) #[false, true, false, false, false, false, false] rfl rfl (by kernel_rfl) (fun _ _ _ h => h) (Or.inl ⟨by rfl, ?_⟩) ?_ ?_
  rotate_left
  ·intro w'
   go_simp
   with_reducible rfl
  rotate_left
  ·simp only [Act.put, zT, z0, zS, i64_w, i32_w]
   rfl
  refine pure_ (i := 2) (N := some 17) (v := ?_) (a' := ?_) #[false, true, true, false, false, false, false] rfl rfl (by kernel_rfl) (fun _ _ _ h => h) (Or.inl ⟨by rfl, ?_⟩) ?_ ?_
  rotate_left
  ·intro w'
   go_simp
   with_reducible rfl
  rotate_left
  ·simp only [Act.put, zT, z0, zS, i64_w, i32_w]
   rfl
  refine take_ (i := 0) (N := some 15) (v := ?_) (a' := ?_) #[true, true, true, false, false, false, false] rfl rfl (by kernel_rfl) (fun _ _ _ h => h) (Or.inl ⟨by rfl, ?_⟩) hHeld ?_ ?_
  rotate_left
  ·rintro w' ⟨s0, s1, s2, s3, s4⟩
   go_simp
   with_reducible rfl
  rotate_left
  ·simp only [Act.put, zT, z0, zS, i64_w, i32_w]
   rfl
  refine one_ (i := 3) (N := some 18) #[true, true, true, true, false, false, false] rfl rfl (by kernel_rfl) (by decide) (fun K hK => ?_)
  refine goes_ Try.func93 (by kernel_rfl) rfl #[.pointer (some ⟨g, 0, none⟩)] (by rfl) rfl rfl yA ?_
  with_reducible refine (EXC.out _ _ _ _ _ _ _ _ _ w0 _ ?side1 ?side2 A5.out).mono ?_
  (case side1 => exact yI)
  (case side2 => exact (kLI HB))
  rintro e w15 ⟨v274, rfl, ho0, hi, hb, hk⟩
  refine ⟨_, rfl, ?_⟩
  have HO275 := am (Kd.N_lower (Kd.N_mono (ok' := fun k_ => (w.heap.size ≤ k_) ∧ some k_ ≠ (.slice Ao12 t263.length co12 : Value).ownBlock ∧ some k_ ≠ (v267 : Value).ownBlock ∧ k_ ≠ gb272 ∧ k_ ≠ g) ho0 (fun k_ hk_ => ⟨(Nat.le_trans (keep_size (w := w) (g := g) (row := none) (kK HK)) hk_), (Kd.fresh' (Kd.R_lt (rB HO265)) k_ hk_), (Kd.fresh' (Kd.N_lt (nB HO268)) k_ hk_), (fB BK272 k_ hk_), (IsS83.fresh yI k_ hk_)⟩)) (keep_size (w := w) (g := g) (row := none) (kK HK)))
  replace HO265 := am (Kd.R_mono (Kd.R_keep (IsS83.apart (show IsS83 w0 _ g s0_0 t269 t270 t271 from yI) (rB HO265) (by decide)) hk (fun _ h => h.2)) (fun _ h => h.1))
  replace HO268 := am (Kd.N_mono (Kd.N_told (Kd.N_oldK (Kd.N_mono (ok := fun k_ => (((w.heap.size ≤ k_)) ∧ (some k_ ≠ (.slice Ao12 t263.length co12 : Value).ownBlock ∧ (k_ ≠ g ∧ k_ ≠ gb272)))) (nB HO268) (fun k_ hk_ => (⟨hk_, hk_.2.2.1⟩ : _ ∧ k_ ≠ g))) hk) (Kd.N_base ho0)) (fun _ h_ => h_.1))
  replace BK272 := am (KeepBut.blk hk (kB BK272) NB272_0.out (by simp))
  replace HK := am (KeepBut.trans (kK HK) hk (.inl rfl))
  replace HB := am hb
  replace HI0 := am hi
  (try clear hb)
  (try clear hb2)
  (try clear hk)
  (try clear hi)
  (try clear ho0)
  obtain ⟨Ao16, co16, eo16⟩ := Kd.N_slice HO268.out
  (first | subst eo16 | (injection eo16 with f1_ f2_ f3_; have f4_ := f1_.symm; have f5_ := f3_.symm; clear f1_ f2_ f3_; subst f4_; subst f5_))
  obtain ⟨Ao17, co17, eo17⟩ := Kd.N_slice HO275.out
  (first | subst eo17 | (injection eo17 with f1_ f2_ f3_; have f4_ := f1_.symm; have f5_ := f3_.symm; clear f1_ f2_ f3_; subst f4_; subst f5_))
  refine hK.out _ _ ⟨(blk_cell BK272.out 0).trans rfl, (blk_cell BK272.out 1).trans rfl, (blk_cell BK272.out 2).trans rfl, (blk_cell BK272.out 3).trans rfl, (blk_cell BK272.out 4).trans rfl⟩ (fun hHeld => ?_)
  clear hK K
  refine norm_ (a' := ?_) ?_ ?_
  rotate_left
  ·show Act.put _ (some 18) _ = _
   simp only [Act.put, zT, z0, zS, i64_w, i32_w]
   rfl
  refine one_ (i := 4) (N := some 19) #[true, true, true, true, true, false, false] rfl rfl (by kernel_rfl) (by decide) (fun K hK => ?_)
  refine Kd.N_lit_step (Kd.slice 25 k25) _ 22 ?hg (N' := 19) ?hd (xs := ([t266, t273] : List (List (S25)))) (inner := [.slice Ao16 t266.length co16, .slice Ao17 t273.length co17]) (ok := (fun k_ => (w.heap.size ≤ k_) ∧ some k_ ≠ (.slice Ao12 t263.length co12 : Value).ownBlock ∧ k_ ≠ gb272 ∧ k_ ≠ g)) (okp := (fun k_ => (w.heap.size ≤ k_) ∧ some k_ ≠ (.slice Ao12 t263.length co12 : Value).ownBlock ∧ k_ ≠ gb272 ∧ k_ ≠ g)) ?hr ?hp (fun _ hk => hk) ((show ∀ k_, w15.heap.size ≤ k_ → (fun k_ => (w.heap.size ≤ k_) ∧ some k_ ≠ (.slice Ao12 t263.length co12 : Value).ownBlock ∧ k_ ≠ gb272 ∧ k_ ≠ g) k_ from fun k_ hk => ⟨(Nat.le_trans (keep_size (w := w) (g := g) (row := none) (kK HK)) hk), Kd.fresh' (Kd.R_lt (rB HO265)) k_ hk, Kd.freshB (g := gb272) (o := .cells #[.int .i64 t259, .string t260, .string t261, .string t262, .slice Ao12 t263.length co12] 25 (0, 0)) (kB BK272) k_ hk, IsS83.fresh yI k_ hk⟩) _ (Nat.le_refl _)) (Below.refl _ _) (Nat.le_refl _) (by simp) ?_; (case hd => rfl); (case hg => rfl); (case hr => first | (go_simp; done) | (go_simp; rfl)); (case hp => exact (Reps.one (show Kd.FK (Kd.slice 25 k25) _ _ t266 [.slice Ao16 t266.length co16] from (Kd.FK_slice_mk (Kd.N_reads' (Kd.N_mono (ok' := (fun k_ => (w.heap.size ≤ k_) ∧ some k_ ≠ (.slice Ao12 t263.length co12 : Value).ownBlock ∧ k_ ≠ gb272 ∧ k_ ≠ g)) (HO268.out) (fun k_ hk => ⟨hk.1.1, ⟨hk.1.2.1, ⟨hk.1.2.2.2, hk.1.2.2.1⟩⟩⟩))).2.1 (Kd.N_F (Kd.N_mono (ok' := (fun k_ => (w.heap.size ≤ k_) ∧ some k_ ≠ (.slice Ao12 t263.length co12 : Value).ownBlock ∧ k_ ≠ gb272 ∧ k_ ≠ g)) (HO268.out) (fun k_ hk => ⟨hk.1.1, ⟨hk.1.2.1, ⟨hk.1.2.2.2, hk.1.2.2.1⟩⟩⟩))))) (Reps.one (show Kd.FK (Kd.slice 25 k25) _ _ t273 [.slice Ao17 t273.length co17] from (Kd.FK_slice_mk (Kd.N_reads' (Kd.N_mono (ok' := (fun k_ => (w.heap.size ≤ k_) ∧ some k_ ≠ (.slice Ao12 t263.length co12 : Value).ownBlock ∧ k_ ≠ gb272 ∧ k_ ≠ g)) (HO275.out) (fun k_ hk => ⟨hk.1, ⟨hk.2.1, ⟨hk.2.2.2.1, hk.2.2.2.2⟩⟩⟩))).2.1 (Kd.N_F (Kd.N_mono (ok' := (fun k_ => (w.heap.size ≤ k_) ∧ some k_ ≠ (.slice Ao12 t263.length co12 : Value).ownBlock ∧ k_ ≠ gb272 ∧ k_ ≠ g)) (HO275.out) (fun k_ hk => ⟨hk.1, ⟨hk.2.1, ⟨hk.2.2.2.1, hk.2.2.2.2⟩⟩⟩))))) (Reps.none _ _))))
  intro v280 w18 ho19 hb hg_ hnew_
  clear hg_ hnew_
  (first | rw [← Ny279.out] at ho19 | (simp only [Int.reduceToNat] at ho19; rw [← Ny279.out] at ho19))
  have n0_ := am (Kd.R_below (rB HO265) hb)
  have n1_ := am (Kd.N_lower ho19 (keep_size (w := w) (g := g) (row := none) (kK HK)))
  have n2_ := am (IsS83.below yI hb)
  have n3_ := am (bB (kB BK272) hb)
  have n4_ := am (KeepBut.trans (kK HK) (KeepBut.of_below hb g none) (.inl rfl))
  have n5_ := am (below_step (kLI HB) hb)
  clear HO265
  clear HI0
  clear BK272
  clear HK
  clear HB
  clear HO268
  clear HO275
  have HO265 := n0_
  have HO281 := n1_
  have HI0 := n2_
  have BK272 := n3_
  have HK := n4_
  have HB := n5_
  clear n0_ n1_ n2_ n3_ n4_ n5_
  clear hb ho19
  obtain ⟨Ao20, co20, eo20⟩ := Kd.N_slice HO281.out
  (first | subst eo20 | (injection eo20 with f1_ f2_ f3_; have f4_ := f1_.symm; have f5_ := f3_.symm; clear f1_ f2_ f3_; subst f4_; subst f5_))
  refine hK.out _ _ ⟨(blk_cell BK272.out 0).trans rfl, (blk_cell BK272.out 1).trans rfl, (blk_cell BK272.out 2).trans rfl, (blk_cell BK272.out 3).trans rfl, (blk_cell BK272.out 4).trans rfl⟩ (fun hHeld => ?_)
  clear hK K
  refine norm_ (a' := ?_) ?_ ?_
  rotate_left
  ·show Act.put _ (some 19) _ = _
   simp only [Act.put, zT, z0, zS, i64_w, i32_w]
   rfl
  refine one_ (i := 5) (N := some 20) #[true, true, true, true, true, true, false] rfl rfl (by kernel_rfl) (by decide) (fun K hK => ?_)
  refine goes_ Try.func32 (by kernel_rfl) rfl #[.agg #[.int .i64 t259, .string t260, .string t261, .string t262, .slice Ao12 t263.length co12], .slice Ao20 y279.length co20] (by rfl) rfl rfl yA ?_
  with_reducible refine (tree_Node.calls k t259 t260 t261 t262 (fun k_ => some k_ = (.slice Ao12 t263.length co12 : Value).ownBlock) _ _ t263 (fun k_ => ((w.heap.size ≤ k_) ∧ (some k_ ≠ (.slice Ao12 t263.length co12 : Value).ownBlock ∧ (k_ ≠ gb272 ∧ k_ ≠ g)))) _ _ y279 t282 _ ?side1 ?side2 A6.out).mono ?_
  (case side1 => exact Kd.R_V (Kd.R_tight rfl (IsS83.apart HI0.out (Kd.R_types (Kd.R_apart' (HO265.out) (Kd.N_typed HO281.out) (by decide)) BK272.out (by decide)) (by decide))))
  (case side2 => exact Kd.N_V (HO281.out))
  rintro e w21 ⟨v283, rfl, ho0, hb⟩
  refine ⟨_, rfl, ?_⟩
  have HO284 := am (Kd.N_lower (Kd.N_mono (ok' := fun k_ => (w.heap.size ≤ k_) ∧ k_ ≠ gb272 ∧ k_ ≠ g) ho0 (fun k_ hk_ => ⟨Or.elim hk_ (fun hs_ => Or.elim hs_ (fun hs_ => ((IsS83.apart HI0.out (Kd.R_types (Kd.R_apart' (HO265.out) (Kd.N_typed HO281.out) (by decide)) BK272.out (by decide)) (by decide)).1 k_ hs_.symm).1.1.1) (fun hs_ => hs_.1)) (fun hn_ => (Nat.le_trans (keep_size (w := w) (g := g) (row := none) (kK HK)) hn_)), Or.elim hk_ (fun hs_ => Or.elim hs_ (fun hs_ => ((IsS83.apart HI0.out (Kd.R_types (Kd.R_apart' (HO265.out) (Kd.N_typed HO281.out) (by decide)) BK272.out (by decide)) (by decide)).1 k_ hs_.symm).1.2) (fun hs_ => hs_.2.2.1)) (fun hn_ => (Kd.freshB (g := gb272) (o := .cells #[.int .i64 t259, .string t260, .string t261, .string t262, .slice Ao12 t263.length co12] 25 (0, 0)) (kB BK272) k_ hn_)), Or.elim hk_ (fun hs_ => Or.elim hs_ (fun hs_ => ((IsS83.apart HI0.out (Kd.R_types (Kd.R_apart' (HO265.out) (Kd.N_typed HO281.out) (by decide)) BK272.out (by decide)) (by decide)).1 k_ hs_.symm).2) (fun hs_ => hs_.2.2.2)) (fun hn_ => (IsS83.fresh yI k_ hn_))⟩)) (keep_size (w := w) (g := g) (row := none) (kK HK)))
  replace HO265 := am (Kd.R_below (rB HO265) hb)
  replace HO281 := am (Kd.N_elder' (nB HO281) (Kd.N_base ho0) hb)
  replace BK272 := am (bB (kB BK272) hb)
  replace HK := am (KeepBut.trans (kK HK) (KeepBut.of_below hb g none) (.inl rfl))
  replace HB := am (below_step (kLI HB) hb)
  replace HI0 := am (IsS83.below yI hb)
  (try clear hb)
  (try clear hb2)
  (try clear hk)
  (try clear hi)
  (try clear ho0)
  refine hK.out _ _ ⟨(blk_cell BK272.out 0).trans rfl, (blk_cell BK272.out 1).trans rfl, (blk_cell BK272.out 2).trans rfl, (blk_cell BK272.out 3).trans rfl, (blk_cell BK272.out 4).trans rfl⟩ (fun hHeld => ?_)
  clear hK K
  refine norm_ (a' := ?_) ?_ ?_
  rotate_left
  ·show Act.put _ (some 20) _ = _
   simp only [Act.put, zT, z0, zS, i64_w, i32_w]
   rfl
  refine pure_ (i := 6) (N := some 2) (v := ?_) (a' := ?_) #[true, true, true, true, true, true, true] rfl rfl (by kernel_rfl) (fun _ _ _ h => h) (Or.inl ⟨by rfl, ?_⟩) ?_ ?_
  rotate_left
  ·intro w'
   go_simp
   with_reducible rfl
  rotate_left
  ·simp only [Act.put, zT, z0, zS, i64_w, i32_w]
   rfl
  refine done_ (by kernel_rfl) ?_
  try go_wp2
  go_ret
  exact ⟨_, yE, Kd.N_mono (nB HO284) (fun _ hk => hk.1), yI, (kLI HB), (kK HK)⟩
 ·replace c3 := Bool.eq_false_iff.mpr c3
  subst c3
  rw [if_neg (show ¬ (false = true) by decide)] at H
  obtain ⟨⟨t285, t288, t289, t290⟩, A22, H⟩ := bO H
  try dsimp only at H
  obtain ⟨⟨t291, t292, t293, t294⟩, A23, H⟩ := bO H
  try dsimp only at H
  by_cases c24 : t291 = true
  ·subst c24
   rw [if_pos rfl] at H
   obtain ⟨⟨t295, t296, t297, t298, t299, t302, t305, t306, t307⟩, A25, H⟩ := bO H
   try dsimp only at H
   obtain ⟨⟨t309, t312, t313, t314⟩, A26, H⟩ := bO H
   try dsimp only at H
   obtain ⟨y315, hy315⟩ : ∃ y_ : List (List (S25)), y_ = (([t302, t285, t309] : List (List (S25)))) := ⟨_, rfl⟩
   replace H : ((tree_Node.f k t295 t296 t297 t298 t299 y315).bind fun t318 => (some (t318, t312, t313, t314))) = some (r1, r2, r3, r4) := by first | (rw [hy315]; with_reducible exact H) | (have H2_ := (Option.bind_some _ _).symm.trans H; rw [hy315]; with_reducible exact H2_) | (have H2_ := (Option.bind_some _ _).symm.trans H; with_reducible exact H2_) | with_reducible exact H | (rw [hy315]; exact H) | exact H
   have Ny315 := am hy315
   clear hy315
   obtain ⟨t318, A27, H⟩ := bO H
   try dsimp only at H
   simp only [Option.some.injEq, Prod.mk.injEq] at H
   obtain ⟨rfl, rfl, rfl, rfl⟩ := H
   go_enter Try.func93, Try.ntmps93
   try go_wp2_with (first | ((with_reducible refine gC 110 rfl ?_); refine gL (some 9) Try.func110 #[.pointer (some ⟨g, 0, none⟩)] ?_; (with_reducible refine (parse_parser_verbs.calls _ _ _ _ _ _ _ _ _ w0 _ ?side1 ?side2 A2.out).mono ?_); (case side1 => exact yI); (case side2 => exact (kLI HB)); rintro e w28 ⟨rfl, hi, hb, hk⟩; refine ⟨_, rfl, ?_⟩; replace HK := am (KeepBut.trans (kK HK) hk (.inl rfl)); replace HB := am hb; replace HI0 := am hi; (try clear hi hb hk)) | ((with_reducible refine gC 112 rfl ?_); refine gL (some 22) Try.func112 #[.pointer (some ⟨g, 0, none⟩)] ?_; (with_reducible refine (parse_parser_term.calls EXF EXC _ _ _ _ _ _ _ _ _ _ w0 _ ?side1 ?side2 A22.out).mono ?_); (case side1 => exact yI); (case side2 => exact (kLI HB)); rintro e w29 ⟨v286, rfl, ho0, hi, hb, hk⟩; refine ⟨_, rfl, ?_⟩; have HO287 := am (Kd.N_lower (Kd.N_mono (ok' := fun k_ => (w.heap.size ≤ k_) ∧ k_ ≠ g) ho0 (fun k_ hk_ => ⟨(Nat.le_trans (keep_size (w := w) (g := g) (row := none) (kK HK)) hk_), (IsS83.fresh yI k_ hk_)⟩)) (keep_size (w := w) (g := g) (row := none) (kK HK))); replace HK := am (KeepBut.trans (kK HK) hk (.inl rfl)); replace HB := am hb; replace HI0 := am hi; (try clear ho0 hi hb hk)) | ((with_reducible refine gC 110 rfl ?_); refine gL (some 24) Try.func110 #[.pointer (some ⟨g, 0, none⟩)] ?_; (with_reducible refine (parse_parser_verbs.calls _ _ _ _ _ _ _ _ _ w0 _ ?side1 ?side2 A23.out).mono ?_); (case side1 => exact yI); (case side2 => exact (kLI HB)); rintro e w30 ⟨rfl, hi, hb, hk⟩; refine ⟨_, rfl, ?_⟩; replace HO287 := am (Kd.N_mono (Kd.N_keep (Kd.N_mono (ok := fun k_ => (((w.heap.size ≤ k_)) ∧ k_ ≠ g)) (nB HO287) (fun k_ hk_ => (⟨hk_, hk_.2⟩ : _ ∧ k_ ≠ g))) hk (fun _ h => h.2)) (fun _ h => h.1)); replace HK := am (KeepBut.trans (kK HK) hk (.inl rfl)); replace HB := am hb; replace HI0 := am hi; (try clear hi hb hk)) | ((with_reducible refine gC 111 rfl ?_); refine gL (some 29) Try.func111 #[.pointer (some ⟨g, 0, none⟩), .int .i64 4, .string (⟨#[39, 46]⟩ : ByteArray)] ?_; (with_reducible refine (parse_parser_verb.calls EXF EXC _ _ _ _ _ _ _ _ _ _ _ _ _ _ _ _ _ w0 _ ?side1 ?side2 A25.out).mono ?_); (case side1 => exact yI); (case side2 => exact (kLI HB)); rintro e w31 ⟨v300, v303, rfl, ho0, ho1, hi, hb, hk⟩; refine ⟨_, rfl, ?_⟩; have HO301 := am (Kd.R_lower (Kd.R_newM (M := fun k_ => (w.heap.size ≤ k_)) (Kd.R_mono (ok' := fun k_ => True) ho0 (fun _ hk_ => trivial)) (keep_size (w := w) (g := g) (row := none) (kK HK)) (fun k_ h_ => h_)) (keep_size (w := w) (g := g) (row := none) (kK HK))); have HO304 := am (Kd.N_lower (Kd.N_mono (ok' := fun k_ => (w.heap.size ≤ k_) ∧ some k_ ≠ (v300 : Value).ownBlock ∧ some k_ ≠ (v286 : Value).ownBlock ∧ k_ ≠ g) ho1 (fun k_ hk_ => ⟨(Nat.le_trans (keep_size (w := w) (g := g) (row := none) (kK HK)) hk_.1), hk_.2, (Kd.fresh' (Kd.N_lt (nB HO287)) k_ hk_.1), (IsS83.fresh yI k_ hk_.1)⟩)) (keep_size (w := w) (g := g) (row := none) (kK HK))); replace HO287 := am (Kd.N_mono (Kd.N_told (Kd.N_told (Kd.N_oldK (Kd.N_mono (ok := fun k_ => (((w.heap.size ≤ k_)) ∧ k_ ≠ g)) (nB HO287) (fun k_ hk_ => (⟨hk_, hk_.2⟩ : _ ∧ k_ ≠ g))) hk) (Kd.R_base ho0)) (Kd.N_base ho1)) (fun _ h_ => h_.1)); replace HK := am (KeepBut.trans (kK HK) hk (.inl rfl)); replace HB := am hb; replace HI0 := am hi; (try clear ho0 ho1 hi hb hk)) | ((with_reducible refine gD 6 rfl ?_); refine bx 6 #[.int .i64 0, .string (⟨#[]⟩ : ByteArray), .string (⟨#[]⟩ : ByteArray), .string (⟨#[]⟩ : ByteArray), .slice none 0 0] 25 ?_; intro gb308 hg w32 hbox hb; replace HO287 := am (Kd.N_below (Kd.N_elderB (nB HO287) gb308 (Nat.le_of_eq hg.symm)) hb); replace HO301 := am (Kd.R_below (rB HO301) hb); replace HO304 := am (Kd.N_below (Kd.N_elderB (nB HO304) gb308 (Nat.le_of_eq hg.symm)) hb); replace HB := am (below_step (kLI HB) hb); have BK308 := am hbox; have GW308 := am ((by rw [hg]; exact (keep_size (w := w) (g := g) (row := none) (kK HK)) : w.heap.size ≤ gb308)); have GE308 := am ((Nat.le_trans HW0.out (by rw [hg]; exact (keep_size (w := w) (g := g) (row := none) (kK HK)) : w.heap.size ≤ gb308) : w0.heap.size ≤ gb308)); replace HK := am (KeepBut.trans (kK HK) (KeepBut.of_below hb g none) (.inl rfl)); have NB0_308 := am ((by rw [hg]; exact Nat.ne_of_lt (IsS83.lt (show IsS83 w0 _ g s0_0 t305 t306 t307 from yI)) : g ≠ gb308)); have NB308_0 := am ((by rw [hg]; exact Nat.ne_of_gt (IsS83.lt (show IsS83 w0 _ g s0_0 t305 t306 t307 from yI)) : gb308 ≠ g)); replace HI0 := am (IsS83.below yI hb); clear hb hbox hg; have hnb33 := NB308_0.out; have hnc33 := NB0_308.out; obtain ⟨hcz34_0, hcz34_1, hcz34_2, hcz34_3, hcz34_4, hfz34_0, hfz34_1, hfz34_2, hfz34_3, hfz34_4⟩ := bk5 BK308.out; obtain ⟨Ao35, co35, eo35⟩ := Kd.R_slice HO301.out; subst eo35))
   have n0_ : Aside0 (Kd.N k25 25 (((((w32.setCell ⟨gb308, 0, none⟩ (.int .i64 t295)).setCell ⟨gb308, 1, none⟩ (.string t296)).setCell ⟨gb308, 2, none⟩ (.string t297)).setCell ⟨gb308, 3, none⟩ (.string t298)).setCell ⟨gb308, 4, none⟩ (.slice Ao35 t299.length co35)) w.heap.size (fun k_ => (w.heap.size ≤ k_) ∧ some k_ ≠ (.slice Ao35 t299.length co35 : Value).ownBlock ∧ some k_ ≠ (v303 : Value).ownBlock ∧ k_ ≠ g ∧ k_ ≠ gb308) v286 t285) := ⟨by (with_reducible repeat (first | apply Kd.N_alloc | apply Kd.N_drewN | apply Kd.N_drew)); exact Kd.N_mono (Kd.N_far (p := ⟨gb308, 4, none⟩) (Kd.N_far (p := ⟨gb308, 3, none⟩) (Kd.N_far (p := ⟨gb308, 2, none⟩) (Kd.N_far (p := ⟨gb308, 1, none⟩) (Kd.N_far (p := ⟨gb308, 0, none⟩) (Kd.N_mono HO287.out (fun k_ hk => (⟨hk, hk.2⟩ : _ ∧ k_ ≠ gb308))) (fun _ hk => hk.2) (.int .i64 t295)) (fun _ hk => hk.2) (.string t296)) (fun _ hk => hk.2) (.string t297)) (fun _ hk => hk.2) (.string t298)) (fun _ hk => hk.2) (.slice Ao35 t299.length co35)) (fun _ hk => ⟨hk.1.1.1.1.1, ⟨hk.1.1.1.2, ⟨hk.1.1.2, ⟨hk.1.1.1.1.2, hk.1.2⟩⟩⟩⟩)⟩
   have n1_ : Aside0 (Kd.R Kd.string 9 (((((w32.setCell ⟨gb308, 0, none⟩ (.int .i64 t295)).setCell ⟨gb308, 1, none⟩ (.string t296)).setCell ⟨gb308, 2, none⟩ (.string t297)).setCell ⟨gb308, 3, none⟩ (.string t298)).setCell ⟨gb308, 4, none⟩ (.slice Ao35 t299.length co35)) w.heap.size (fun k_ => (w.heap.size ≤ k_)) (.slice Ao35 t299.length co35) t299) := ⟨by (with_reducible repeat (first | apply Kd.R_alloc | apply Kd.R_drewN | apply Kd.R_drew)); exact Kd.R_mono (Kd.R_far (p := ⟨gb308, 4, none⟩) (Kd.R_far (p := ⟨gb308, 3, none⟩) (Kd.R_far (p := ⟨gb308, 2, none⟩) (Kd.R_far (p := ⟨gb308, 1, none⟩) (Kd.R_far (p := ⟨gb308, 0, none⟩) (Kd.R_types HO301.out BK308.out (by decide)) (fun _ hk => hk.2) (.int .i64 t295)) (fun _ hk => hk.2) (.string t296)) (fun _ hk => hk.2) (.string t297)) (fun _ hk => hk.2) (.string t298)) (fun _ hk => hk.2) (.slice Ao35 t299.length co35)) (fun _ hk => hk.1.1)⟩
   have n2_ : Aside0 (Kd.N k25 25 (((((w32.setCell ⟨gb308, 0, none⟩ (.int .i64 t295)).setCell ⟨gb308, 1, none⟩ (.string t296)).setCell ⟨gb308, 2, none⟩ (.string t297)).setCell ⟨gb308, 3, none⟩ (.string t298)).setCell ⟨gb308, 4, none⟩ (.slice Ao35 t299.length co35)) w.heap.size (fun k_ => (w.heap.size ≤ k_) ∧ some k_ ≠ (v286 : Value).ownBlock ∧ some k_ ≠ (.slice Ao35 t299.length co35 : Value).ownBlock ∧ k_ ≠ g ∧ k_ ≠ gb308) v303 t302) := ⟨by (with_reducible repeat (first | apply Kd.N_alloc | apply Kd.N_drewN | apply Kd.N_drew)); exact Kd.N_mono (Kd.N_far (p := ⟨gb308, 4, none⟩) (Kd.N_far (p := ⟨gb308, 3, none⟩) (Kd.N_far (p := ⟨gb308, 2, none⟩) (Kd.N_far (p := ⟨gb308, 1, none⟩) (Kd.N_far (p := ⟨gb308, 0, none⟩) (Kd.N_mono HO304.out (fun k_ hk => (⟨hk, hk.2⟩ : _ ∧ k_ ≠ gb308))) (fun _ hk => hk.2) (.int .i64 t295)) (fun _ hk => hk.2) (.string t296)) (fun _ hk => hk.2) (.string t297)) (fun _ hk => hk.2) (.string t298)) (fun _ hk => hk.2) (.slice Ao35 t299.length co35)) (fun _ hk => ⟨hk.1.1.1, ⟨hk.1.1.2.2.1, ⟨hk.1.1.2.1, ⟨hk.1.1.2.2.2, hk.1.2⟩⟩⟩⟩)⟩
   have n3_ : Aside0 ((((((w32.setCell ⟨gb308, 0, none⟩ (.int .i64 t295)).setCell ⟨gb308, 1, none⟩ (.string t296)).setCell ⟨gb308, 2, none⟩ (.string t297)).setCell ⟨gb308, 3, none⟩ (.string t298)).setCell ⟨gb308, 4, none⟩ (.slice Ao35 t299.length co35)).heap[gb308]? = some (.cells #[.int .i64 t295, .string t296, .string t297, .string t298, .slice Ao35 t299.length co35] 25 (0, 0))) := ⟨kM BK308⟩
   have n4_ : Aside0 (IsS83 w0 (((((w32.setCell ⟨gb308, 0, none⟩ (.int .i64 t295)).setCell ⟨gb308, 1, none⟩ (.string t296)).setCell ⟨gb308, 2, none⟩ (.string t297)).setCell ⟨gb308, 3, none⟩ (.string t298)).setCell ⟨gb308, 4, none⟩ (.slice Ao35 t299.length co35)) g s0_0 t305 t306 t307) := ⟨yI⟩
   have n5_ : Aside0 (KeepBut w (((((w32.setCell ⟨gb308, 0, none⟩ (.int .i64 t295)).setCell ⟨gb308, 1, none⟩ (.string t296)).setCell ⟨gb308, 2, none⟩ (.string t297)).setCell ⟨gb308, 3, none⟩ (.string t298)).setCell ⟨gb308, 4, none⟩ (.slice Ao35 t299.length co35)) g none) := ⟨(kK HK)⟩
   have n6_ : Aside0 (Below w0.heap.size w0 (((((w32.setCell ⟨gb308, 0, none⟩ (.int .i64 t295)).setCell ⟨gb308, 1, none⟩ (.string t296)).setCell ⟨gb308, 2, none⟩ (.string t297)).setCell ⟨gb308, 3, none⟩ (.string t298)).setCell ⟨gb308, 4, none⟩ (.slice Ao35 t299.length co35))) := ⟨(kLI HB)⟩
   (try clear HO287)
   (try clear HO301)
   (try clear HO304)
   (try clear BK308)
   (try clear HI0)
   (try clear HK)
   (try clear HB)
   generalize (((((w32.setCell ⟨gb308, 0, none⟩ (.int .i64 t295)).setCell ⟨gb308, 1, none⟩ (.string t296)).setCell ⟨gb308, 2, none⟩ (.string t297)).setCell ⟨gb308, 3, none⟩ (.string t298)).setCell ⟨gb308, 4, none⟩ (.slice Ao35 t299.length co35)) = w36 at n0_ n1_ n2_ n3_ n4_ n5_ n6_ ⊢
   have HO287 := n0_
   have HO301 := n1_
   have HO304 := n2_
   have BK308 := n3_
   have HI0 := n4_
   have HK := n5_
   have HB := n6_
   clear n0_ n1_ n2_ n3_ n4_ n5_ n6_
   replace HO287 := am (Kd.N_drew HO287.out)
   replace HO301 := am (Kd.R_drew HO301.out)
   replace HO304 := am (Kd.N_drew HO304.out)
   replace BK308 := am (bD BK308.out)
   replace HI0 := am (IsS83.drew HI0.out)
   replace HK := am (keep_drew HK.out)
   replace HB := am (lD HB.out)
   refine start_ (n := 8) (S := fun w' => w'.cell? ⟨gb308, 0, none⟩ = some (.int .i64 t295) ∧ w'.cell? ⟨gb308, 1, none⟩ = some (.string t296) ∧ w'.cell? ⟨gb308, 2, none⟩ = some (.string t297) ∧ w'.cell? ⟨gb308, 3, none⟩ = some (.string t298) ∧ w'.cell? ⟨gb308, 4, none⟩ = some (.slice Ao35 t299.length co35)) (ds := []) #[false, false, false, false, false, false, false, false] (by kernel_rfl) rfl rfl ⟨(blk_cell BK308.out 0).trans rfl, (blk_cell BK308.out 1).trans rfl, (blk_cell BK308.out 2).trans rfl, (blk_cell BK308.out 3).trans rfl, (blk_cell BK308.out 4).trans rfl⟩ (fun hHeld => ?_); refine with_tabW parse_parser_exprB.tab8 parse_parser_exprB.bits8 (fun HT_ HW_ => ?_)
   generalize w36.drew = w37 at HO287 HO301 HO304 BK308 HI0 HK HB hHeld ⊢
   refine pure_ (i := 1) (N := some 33) (v := ?_) (a' := ?_) #[false, true, false, false, false, false, false, false] rfl rfl (any_of HT_.out (by kernel_rfl)) (fun _ _ _ h => h) (Or.inl ⟨by rfl, ?_⟩) ?_ ?_
   rotate_left
   ·intro w'
    go_simp
    with_reducible rfl
   rotate_left
   ·simp only [Act.put, zT, z0, zS, i64_w, i32_w]
    rfl
   refine pure_ (i := 2) (N := some 34) (v := ?_) (a' := ?_) #[false, true, true, false, false, false, false, false] rfl rfl (any_of HT_.out (by kernel_rfl)) (fun _ _ _ h => h) (Or.inl ⟨by rfl, ?_⟩) ?_ ?_
   rotate_left
   ·intro w'
    go_simp
    with_reducible rfl
   rotate_left
   ·simp only [Act.put, zT, z0, zS, i64_w, i32_w]
    rfl
   refine pure_ (i := 3) (N := some 35) (v := ?_) (a' := ?_) #[false, true, true, true, false, false, false, false] rfl rfl (any_of HT_.out (by kernel_rfl)) (fun _ _ _ h => h) (Or.inl ⟨by rfl, ?_⟩) ?_ ?_
   rotate_left
   ·intro w'
    go_simp
    with_reducible rfl
   rotate_left
   ·simp only [Act.put, zT, z0, zS, i64_w, i32_w]
    rfl
   refine take_ (i := 0) (N := some 32) (v := ?_) (a' := ?_) #[true, true, true, true, false, false, false, false] rfl rfl (take_ofW HT_.out HW_.out (by kernel_rfl)) (fun _ _ _ h => h) (Or.inl ⟨by rfl, ?_⟩) hHeld ?_ ?_
   rotate_left
   ·rintro w' ⟨s0, s1, s2, s3, s4⟩
    go_simp
    with_reducible rfl
   rotate_left
   ·simp only [Act.put, zT, z0, zS, i64_w, i32_w]
    rfl
   refine one_ (i := 4) (N := some 36) #[true, true, true, true, true, false, false, false] rfl rfl (one_of HT_.out (by kernel_rfl)) (by decide) (fun K hK => ?_)
   refine goes_ Try.func93 (by kernel_rfl) rfl #[.pointer (some ⟨g, 0, none⟩)] (by rfl) rfl rfl yA ?_
   with_reducible refine (EXC.out _ _ _ _ _ _ _ _ _ w0 _ ?side1 ?side2 A26.out).mono ?_
   (case side1 => exact yI)
   (case side2 => exact (kLI HB))
   rintro e w38 ⟨v310, rfl, ho0, hi, hb, hk⟩
   refine ⟨_, rfl, ?_⟩
   have HO311 := am (Kd.N_lower (Kd.N_mono (ok' := fun k_ => (w.heap.size ≤ k_) ∧ some k_ ≠ (v286 : Value).ownBlock ∧ some k_ ≠ (.slice Ao35 t299.length co35 : Value).ownBlock ∧ some k_ ≠ (v303 : Value).ownBlock ∧ k_ ≠ gb308 ∧ k_ ≠ g) ho0 (fun k_ hk_ => ⟨(Nat.le_trans (keep_size (w := w) (g := g) (row := none) (kK HK)) hk_), (Kd.fresh' (Kd.N_lt (nB HO287)) k_ hk_), (Kd.fresh' (Kd.R_lt (rB HO301)) k_ hk_), (Kd.fresh' (Kd.N_lt (nB HO304)) k_ hk_), (fB BK308 k_ hk_), (IsS83.fresh yI k_ hk_)⟩)) (keep_size (w := w) (g := g) (row := none) (kK HK)))
   replace HO287 := am (Kd.N_mono (Kd.N_told (Kd.N_oldK (Kd.N_mono (ok := fun k_ => (((w.heap.size ≤ k_)) ∧ (some k_ ≠ (.slice Ao35 t299.length co35 : Value).ownBlock ∧ (some k_ ≠ (v303 : Value).ownBlock ∧ (k_ ≠ g ∧ k_ ≠ gb308))))) (nB HO287) (fun k_ hk_ => (⟨hk_, hk_.2.2.2.1⟩ : _ ∧ k_ ≠ g))) hk) (Kd.N_base ho0)) (fun _ h_ => h_.1))
   replace HO301 := am (Kd.R_mono (Kd.R_keep (IsS83.apart (show IsS83 w0 _ g s0_0 t305 t306 t307 from yI) (rB HO301) (by decide)) hk (fun _ h => h.2)) (fun _ h => h.1))
   replace HO304 := am (Kd.N_mono (Kd.N_told (Kd.N_oldK (Kd.N_mono (ok := fun k_ => (((w.heap.size ≤ k_)) ∧ (some k_ ≠ (v286 : Value).ownBlock ∧ (some k_ ≠ (.slice Ao35 t299.length co35 : Value).ownBlock ∧ (k_ ≠ g ∧ k_ ≠ gb308))))) (nB HO304) (fun k_ hk_ => (⟨hk_, hk_.2.2.2.1⟩ : _ ∧ k_ ≠ g))) hk) (Kd.N_base ho0)) (fun _ h_ => h_.1))
   replace BK308 := am (KeepBut.blk hk (kB BK308) NB308_0.out (by simp))
   replace HK := am (KeepBut.trans (kK HK) hk (.inl rfl))
   replace HB := am hb
   replace HI0 := am hi
   (try clear hb)
   (try clear hb2)
   (try clear hk)
   (try clear hi)
   (try clear ho0)
   obtain ⟨Ao39, co39, eo39⟩ := Kd.N_slice HO304.out
   (first | subst eo39 | (injection eo39 with f1_ f2_ f3_; have f4_ := f1_.symm; have f5_ := f3_.symm; clear f1_ f2_ f3_; subst f4_; subst f5_))
   obtain ⟨Ao40, co40, eo40⟩ := Kd.N_slice HO287.out
   (first | subst eo40 | (injection eo40 with f1_ f2_ f3_; have f4_ := f1_.symm; have f5_ := f3_.symm; clear f1_ f2_ f3_; subst f4_; subst f5_))
   obtain ⟨Ao41, co41, eo41⟩ := Kd.N_slice HO311.out
   (first | subst eo41 | (injection eo41 with f1_ f2_ f3_; have f4_ := f1_.symm; have f5_ := f3_.symm; clear f1_ f2_ f3_; subst f4_; subst f5_))
   refine hK.out _ _ ⟨(blk_cell BK308.out 0).trans rfl, (blk_cell BK308.out 1).trans rfl, (blk_cell BK308.out 2).trans rfl, (blk_cell BK308.out 3).trans rfl, (blk_cell BK308.out 4).trans rfl⟩ (fun hHeld => ?_)
   clear hK K
   refine norm_ (a' := ?_) ?_ ?_
   rotate_left
   ·show Act.put _ (some 36) _ = _
    simp only [Act.put, zT, z0, zS, i64_w, i32_w]
    rfl
   refine one_ (i := 5) (N := some 37) #[true, true, true, true, true, true, false, false] rfl rfl (one_of HT_.out (by kernel_rfl)) (by decide) (fun K hK => ?_)
   refine Kd.N_lit_step (Kd.slice 25 k25) _ 22 ?hg (N' := 37) ?hd (xs := ([t302, t285, t309] : List (List (S25)))) (inner := [.slice Ao39 t302.length co39, .slice Ao40 t285.length co40, .slice Ao41 t309.length co41]) (ok := (fun k_ => (w.heap.size ≤ k_) ∧ some k_ ≠ (.slice Ao35 t299.length co35 : Value).ownBlock ∧ k_ ≠ gb308 ∧ k_ ≠ g)) (okp := (fun k_ => (w.heap.size ≤ k_) ∧ some k_ ≠ (.slice Ao35 t299.length co35 : Value).ownBlock ∧ k_ ≠ gb308 ∧ k_ ≠ g)) ?hr ?hp (fun _ hk => hk) ((show ∀ k_, w38.heap.size ≤ k_ → (fun k_ => (w.heap.size ≤ k_) ∧ some k_ ≠ (.slice Ao35 t299.length co35 : Value).ownBlock ∧ k_ ≠ gb308 ∧ k_ ≠ g) k_ from fun k_ hk => ⟨(Nat.le_trans (keep_size (w := w) (g := g) (row := none) (kK HK)) hk), Kd.fresh' (Kd.R_lt (rB HO301)) k_ hk, Kd.freshB (g := gb308) (o := .cells #[.int .i64 t295, .string t296, .string t297, .string t298, .slice Ao35 t299.length co35] 25 (0, 0)) (kB BK308) k_ hk, IsS83.fresh yI k_ hk⟩) _ (Nat.le_refl _)) (Below.refl _ _) (Nat.le_refl _) (by simp) ?_; (case hd => rfl); (case hg => rfl); (case hr => first | (go_simp; done) | (go_simp; rfl)); (case hp => exact (Reps.one (show Kd.FK (Kd.slice 25 k25) _ _ t302 [.slice Ao39 t302.length co39] from (Kd.FK_slice_mk (Kd.N_reads' (Kd.N_mono (ok' := (fun k_ => (w.heap.size ≤ k_) ∧ some k_ ≠ (.slice Ao35 t299.length co35 : Value).ownBlock ∧ k_ ≠ gb308 ∧ k_ ≠ g)) (HO304.out) (fun k_ hk => ⟨hk.1.1, ⟨hk.1.2.2.1, ⟨hk.1.2.2.2.2, hk.1.2.2.2.1⟩⟩⟩))).2.1 (Kd.N_F (Kd.N_mono (ok' := (fun k_ => (w.heap.size ≤ k_) ∧ some k_ ≠ (.slice Ao35 t299.length co35 : Value).ownBlock ∧ k_ ≠ gb308 ∧ k_ ≠ g)) (HO304.out) (fun k_ hk => ⟨hk.1.1, ⟨hk.1.2.2.1, ⟨hk.1.2.2.2.2, hk.1.2.2.2.1⟩⟩⟩))))) (Reps.one (show Kd.FK (Kd.slice 25 k25) _ _ t285 [.slice Ao40 t285.length co40] from (Kd.FK_slice_mk (Kd.N_reads' (Kd.N_mono (ok' := (fun k_ => (w.heap.size ≤ k_) ∧ some k_ ≠ (.slice Ao35 t299.length co35 : Value).ownBlock ∧ k_ ≠ gb308 ∧ k_ ≠ g)) (HO287.out) (fun k_ hk => ⟨hk.1.1, ⟨hk.1.2.1, ⟨hk.1.2.2.2.2, hk.1.2.2.2.1⟩⟩⟩))).2.1 (Kd.N_F (Kd.N_mono (ok' := (fun k_ => (w.heap.size ≤ k_) ∧ some k_ ≠ (.slice Ao35 t299.length co35 : Value).ownBlock ∧ k_ ≠ gb308 ∧ k_ ≠ g)) (HO287.out) (fun k_ hk => ⟨hk.1.1, ⟨hk.1.2.1, ⟨hk.1.2.2.2.2, hk.1.2.2.2.1⟩⟩⟩))))) (Reps.one (show Kd.FK (Kd.slice 25 k25) _ _ t309 [.slice Ao41 t309.length co41] from (Kd.FK_slice_mk (Kd.N_reads' (Kd.N_mono (ok' := (fun k_ => (w.heap.size ≤ k_) ∧ some k_ ≠ (.slice Ao35 t299.length co35 : Value).ownBlock ∧ k_ ≠ gb308 ∧ k_ ≠ g)) (HO311.out) (fun k_ hk => ⟨hk.1, ⟨hk.2.2.1, ⟨hk.2.2.2.2.1, hk.2.2.2.2.2⟩⟩⟩))).2.1 (Kd.N_F (Kd.N_mono (ok' := (fun k_ => (w.heap.size ≤ k_) ∧ some k_ ≠ (.slice Ao35 t299.length co35 : Value).ownBlock ∧ k_ ≠ gb308 ∧ k_ ≠ g)) (HO311.out) (fun k_ hk => ⟨hk.1, ⟨hk.2.2.1, ⟨hk.2.2.2.2.1, hk.2.2.2.2.2⟩⟩⟩))))) (Reps.none _ _)))))
   intro v316 w42 ho43 hb hg_ hnew_
   clear hg_ hnew_
   (first | rw [← Ny315.out] at ho43 | (simp only [Int.reduceToNat] at ho43; rw [← Ny315.out] at ho43))
   have n0_ := am (Kd.R_below (rB HO301) hb)
   have n1_ := am (Kd.N_lower ho43 (keep_size (w := w) (g := g) (row := none) (kK HK)))
   have n2_ := am (IsS83.below yI hb)
   have n3_ := am (bB (kB BK308) hb)
   have n4_ := am (KeepBut.trans (kK HK) (KeepBut.of_below hb g none) (.inl rfl))
   have n5_ := am (below_step (kLI HB) hb)
   clear HO301
   clear HI0
   clear BK308
   clear HK
   clear HB
   clear HO287
   clear HO304
   clear HO311
   have HO301 := n0_
   have HO317 := n1_
   have HI0 := n2_
   have BK308 := n3_
   have HK := n4_
   have HB := n5_
   clear n0_ n1_ n2_ n3_ n4_ n5_
   clear hb ho43
   obtain ⟨Ao44, co44, eo44⟩ := Kd.N_slice HO317.out
   (first | subst eo44 | (injection eo44 with f1_ f2_ f3_; have f4_ := f1_.symm; have f5_ := f3_.symm; clear f1_ f2_ f3_; subst f4_; subst f5_))
   refine hK.out _ _ ⟨(blk_cell BK308.out 0).trans rfl, (blk_cell BK308.out 1).trans rfl, (blk_cell BK308.out 2).trans rfl, (blk_cell BK308.out 3).trans rfl, (blk_cell BK308.out 4).trans rfl⟩ (fun hHeld => ?_)
   clear hK K
   refine norm_ (a' := ?_) ?_ ?_
   rotate_left
   ·show Act.put _ (some 37) _ = _
    simp only [Act.put, zT, z0, zS, i64_w, i32_w]
    rfl
   refine one_ (i := 6) (N := some 38) #[true, true, true, true, true, true, true, false] rfl rfl (one_of HT_.out (by kernel_rfl)) (by decide) (fun K hK => ?_)
   refine goes_ Try.func32 (by kernel_rfl) rfl #[.agg #[.int .i64 t295, .string t296, .string t297, .string t298, .slice Ao35 t299.length co35], .slice Ao44 y315.length co44] (by rfl) rfl rfl yA ?_
   with_reducible refine (tree_Node.calls k t295 t296 t297 t298 (fun k_ => some k_ = (.slice Ao35 t299.length co35 : Value).ownBlock) _ _ t299 (fun k_ => ((w.heap.size ≤ k_) ∧ (some k_ ≠ (.slice Ao35 t299.length co35 : Value).ownBlock ∧ (k_ ≠ gb308 ∧ k_ ≠ g)))) _ _ y315 t318 _ ?side1 ?side2 A27.out).mono ?_
   (case side1 => exact Kd.R_V (Kd.R_tight rfl (IsS83.apart HI0.out (Kd.R_types (Kd.R_apart' (HO301.out) (Kd.N_typed HO317.out) (by decide)) BK308.out (by decide)) (by decide))))
   (case side2 => exact Kd.N_V (HO317.out))
   rintro e w45 ⟨v319, rfl, ho0, hb⟩
   refine ⟨_, rfl, ?_⟩
   have HO320 := am (Kd.N_lower (Kd.N_mono (ok' := fun k_ => (w.heap.size ≤ k_) ∧ k_ ≠ gb308 ∧ k_ ≠ g) ho0 (fun k_ hk_ => ⟨Or.elim hk_ (fun hs_ => Or.elim hs_ (fun hs_ => ((IsS83.apart HI0.out (Kd.R_types (Kd.R_apart' (HO301.out) (Kd.N_typed HO317.out) (by decide)) BK308.out (by decide)) (by decide)).1 k_ hs_.symm).1.1.1) (fun hs_ => hs_.1)) (fun hn_ => (Nat.le_trans (keep_size (w := w) (g := g) (row := none) (kK HK)) hn_)), Or.elim hk_ (fun hs_ => Or.elim hs_ (fun hs_ => ((IsS83.apart HI0.out (Kd.R_types (Kd.R_apart' (HO301.out) (Kd.N_typed HO317.out) (by decide)) BK308.out (by decide)) (by decide)).1 k_ hs_.symm).1.2) (fun hs_ => hs_.2.2.1)) (fun hn_ => (Kd.freshB (g := gb308) (o := .cells #[.int .i64 t295, .string t296, .string t297, .string t298, .slice Ao35 t299.length co35] 25 (0, 0)) (kB BK308) k_ hn_)), Or.elim hk_ (fun hs_ => Or.elim hs_ (fun hs_ => ((IsS83.apart HI0.out (Kd.R_types (Kd.R_apart' (HO301.out) (Kd.N_typed HO317.out) (by decide)) BK308.out (by decide)) (by decide)).1 k_ hs_.symm).2) (fun hs_ => hs_.2.2.2)) (fun hn_ => (IsS83.fresh yI k_ hn_))⟩)) (keep_size (w := w) (g := g) (row := none) (kK HK)))
   replace HO301 := am (Kd.R_below (rB HO301) hb)
   replace HO317 := am (Kd.N_elder' (nB HO317) (Kd.N_base ho0) hb)
   replace BK308 := am (bB (kB BK308) hb)
   replace HK := am (KeepBut.trans (kK HK) (KeepBut.of_below hb g none) (.inl rfl))
   replace HB := am (below_step (kLI HB) hb)
   replace HI0 := am (IsS83.below yI hb)
   (try clear hb)
   (try clear hb2)
   (try clear hk)
   (try clear hi)
   (try clear ho0)
   refine hK.out _ _ ⟨(blk_cell BK308.out 0).trans rfl, (blk_cell BK308.out 1).trans rfl, (blk_cell BK308.out 2).trans rfl, (blk_cell BK308.out 3).trans rfl, (blk_cell BK308.out 4).trans rfl⟩ (fun hHeld => ?_)
   clear hK K
   refine norm_ (a' := ?_) ?_ ?_
   rotate_left
   ·show Act.put _ (some 38) _ = _
    simp only [Act.put, zT, z0, zS, i64_w, i32_w]
    rfl
   refine pure_ (i := 7) (N := some 2) (v := ?_) (a' := ?_) #[true, true, true, true, true, true, true, true] rfl rfl (any_of HT_.out (by kernel_rfl)) (fun _ _ _ h => h) (Or.inl ⟨by rfl, ?_⟩) ?_ ?_
   rotate_left
   ·intro w'
    go_simp
    with_reducible rfl
   rotate_left
   ·simp only [Act.put, zT, z0, zS, i64_w, i32_w]
    rfl
   refine done_ (done_of HT_.out (by kernel_rfl)) ?_
   try go_wp2
   go_ret
   exact ⟨_, yE, Kd.N_mono (nB HO320) (fun _ hk => hk.1), yI, (kLI HB), (kK HK)⟩
  ·replace c24 := Bool.eq_false_iff.mpr c24
   subst c24
   rw [if_neg (show ¬ (false = true) by decide)] at H
   simp only [Option.some.injEq, Prod.mk.injEq] at H
   obtain ⟨rfl, rfl, rfl, rfl⟩ := H
   go_enter Try.func93, Try.ntmps93
   go_wp2_with (first | ((with_reducible refine gC 110 rfl ?_); refine gL (some 9) Try.func110 #[.pointer (some ⟨g, 0, none⟩)] ?_; (with_reducible refine (parse_parser_verbs.calls _ _ _ _ _ _ _ _ _ w0 _ ?side1 ?side2 A2.out).mono ?_); (case side1 => exact yI); (case side2 => exact (kLI HB)); rintro e w46 ⟨rfl, hi, hb, hk⟩; refine ⟨_, rfl, ?_⟩; replace HK := am (KeepBut.trans (kK HK) hk (.inl rfl)); replace HB := am hb; replace HI0 := am hi; (try clear hi hb hk)) | ((with_reducible refine gC 112 rfl ?_); refine gL (some 22) Try.func112 #[.pointer (some ⟨g, 0, none⟩)] ?_; (with_reducible refine (parse_parser_term.calls EXF EXC _ _ _ _ _ _ _ _ _ _ w0 _ ?side1 ?side2 A22.out).mono ?_); (case side1 => exact yI); (case side2 => exact (kLI HB)); rintro e w47 ⟨v286, rfl, ho0, hi, hb, hk⟩; refine ⟨_, rfl, ?_⟩; have HO287 := am (Kd.N_lower (Kd.N_mono (ok' := fun k_ => (w.heap.size ≤ k_) ∧ k_ ≠ g) ho0 (fun k_ hk_ => ⟨(Nat.le_trans (keep_size (w := w) (g := g) (row := none) (kK HK)) hk_), (IsS83.fresh yI k_ hk_)⟩)) (keep_size (w := w) (g := g) (row := none) (kK HK))); replace HK := am (KeepBut.trans (kK HK) hk (.inl rfl)); replace HB := am hb; replace HI0 := am hi; (try clear ho0 hi hb hk)) | ((with_reducible refine gC 110 rfl ?_); refine gL (some 24) Try.func110 #[.pointer (some ⟨g, 0, none⟩)] ?_; (with_reducible refine (parse_parser_verbs.calls _ _ _ _ _ _ _ _ _ w0 _ ?side1 ?side2 A23.out).mono ?_); (case side1 => exact yI); (case side2 => exact (kLI HB)); rintro e w48 ⟨rfl, hi, hb, hk⟩; refine ⟨_, rfl, ?_⟩; replace HO287 := am (Kd.N_mono (Kd.N_keep (Kd.N_mono (ok := fun k_ => (((w.heap.size ≤ k_)) ∧ k_ ≠ g)) (nB HO287) (fun k_ hk_ => (⟨hk_, hk_.2⟩ : _ ∧ k_ ≠ g))) hk (fun _ h => h.2)) (fun _ h => h.1)); replace HK := am (KeepBut.trans (kK HK) hk (.inl rfl)); replace HB := am hb; replace HI0 := am hi; (try clear hi hb hk)))
   go_ret
   exact ⟨_, yE, Kd.N_mono (nB HO287) (fun _ hk => hk.1), yI, (kLI HB), (kK HK)⟩
end Go.Proofs.Ytdelccahgchadaa.P
end
section
namespace Go.Proofs.Ytdelccahgchadaa
open Go.RowKit Go.Lib Go.Proofs.Ytdelccahgchadaa.P Go.Proofs.YtdelccahgchadaaW.PrintWords Go.Proofs.YtdelccahgchadaaW.PrintMore
set_option linter.unusedVariables false
def Ps (l : List Tt) (st : PSt) : Int := ((l.length - st.1.length : Nat) : Int)
theorem suffix_drop {l m : List Tt} (h : m <:+ l) : l.drop (l.length - m.length) = m ∧ m.length ≤ l.length := by
 obtain ⟨p, rfl⟩ := h
 rw [List.length_append]
 exact ⟨by rw [show p.length + m.length - m.length = p.length by omega, List.drop_left], by omega⟩
theorem rd_tok (l : List Tt) (i : Nat) (t : Tt) (r : List Tt) (h : l.drop i = t :: r) : rd_T71 l (i : Int) = t ∧ i < l.length := by
 have hi : i < l.length := by
  have := congrArg List.length h
  rw [List.length_drop, List.length_cons] at this
  omega
 have hd := List.drop_eq_getElem_cons hi
 rw [h] at hd
 injection hd with h1 h2
 refine ⟨?_, hi⟩
 unfold rd_T71
 rw [Int.toNat_natCast, List.getD_eq_getElem?_getD, List.getElem?_eq_getElem hi]
 exact h1.symm
section
variable (l : List Tt) (hl : l.length ≤ 1000000) (en : Int)
theorem Ps_bounds (l : List Tt) (hl : l.length ≤ 1000000) (st : PSt) : 0 ≤ Ps l st ∧ Ps l st ≤ 1000000 := by unfold Ps; omega
theorem Ps_next (l : List Tt) (hl : l.length ≤ 1000000) (st : PSt) (hs : st.1 <:+ l) (hk : kd0 st ≠ 0) : wrap64 (Ps l st + 1) = Ps l (next st) := by
 have hb := Ps_bounds l hl st
 have h1 := (kd0_taken hk).2
 have h2 := hs.length_le
 rw [wrap_id (by omega) (by omega)]
 unfold Ps
 omega
theorem look0 (l : List Tt) (hl : l.length ≤ 1000000) (en : Int) (st : PSt) (hs : st.1 <:+ l) : ∃ a, parse_parser_look.f l (Ps l st) en st.2 0 = some (kd0 st, tx0 st, a, Ps l st, en, st.2) := by
 have hb := Ps_bounds l hl st
 have hw : wrap64 (Ps l st + 0) = Ps l st := by rw [Int.add_zero, wrap_id (by omega) (by omega)]
 unfold parse_parser_look.f
 rw [hw]
 clear hw
 obtain ⟨m, b⟩ := st
 cases b with
 | true => exact ⟨en, by rw [if_pos rfl]; rfl⟩
 | false =>
  rw [if_neg (fun e : (m, false).2 = true => by cases e)]
  obtain ⟨hd, hle⟩ := suffix_drop hs
  cases m with
  | nil =>
   have : Ps l ([], false) = (l.length : Int) := by unfold Ps; simp
   exact ⟨en, by rw [if_pos (by omega)]; rfl⟩
  | cons t r =>
   obtain ⟨h1, h2⟩ := rd_tok l (l.length - (t :: r).length) t r hd
   have : Ps l (t :: r, false) = ((l.length - (t :: r).length : Nat) : Int) := rfl
   rw [this, if_neg (by omega), if_pos (by omega), h1]
   exact ⟨t.f2, rfl⟩
theorem isM_iff (m : UInt8) (st : PSt) : isM m st = true ↔ kd0 st = 6 ∧ tx0 st = ⟨#[m]⟩ := by
 unfold isM
 rw [Bool.and_eq_true, beq_iff_eq, beq_iff_eq]
 exact ⟨fun h => ⟨h.1, L_ext h.2⟩, fun h => ⟨h.1, by rw [h.2]⟩⟩
theorem is0 (l : List Tt) (hl : l.length ≤ 1000000) (en : Int) (st : PSt) (hs : st.1 <:+ l) (m : UInt8) : parse_parser_is.f l (Ps l st) en st.2 0 (⟨#[m]⟩ : ByteArray) = some (isM m st, Ps l st, en, st.2) := by
 obtain ⟨a, h⟩ := look0 l hl en st hs
 unfold parse_parser_is.f
 rw [h]
 simp only [Option.bind_some]
 by_cases h6 : kd0 st = 6
 ·rw [if_pos h6]
  have : ((tx0 st).toList == (⟨#[m]⟩ : ByteArray).toList) = isM m st := by
   rw [Bool.eq_iff_iff, beq_iff_eq, isM_iff, toList_L, toList_L]
   exact ⟨fun h => ⟨h6, L_ext h⟩, fun h => by rw [h.2]⟩
  rw [this]
 ·rw [if_neg h6]
  have : isM m st = false := by rw [← Bool.not_eq_true, isM_iff]; exact fun h => h6 h.1
  rw [this]
theorem mark0 (l : List Tt) (hl : l.length ≤ 1000000) (en : Int) (st : PSt) (hs : st.1 <:+ l) (m : UInt8) : parse_parser_mark.f l (Ps l st) en st.2 (⟨#[m]⟩ : ByteArray) = some (Ps l (markS m st), en, (markS m st).2) := by
 unfold parse_parser_mark.f
 rw [is0 l hl en st hs m]
 simp only [Option.bind_some]
 unfold markS
 by_cases h : isM m st = true
 ·rw [if_pos h, if_pos h, Ps_next l hl st hs (by rw [isM_kd h]; decide)]; rfl
 ·rw [if_neg h, if_neg h]; rfl
theorem verbs0 (l : List Tt) (hl : l.length ≤ 1000000) (en : Int) (st : PSt) (hs : st.1 <:+ l) : parse_parser_verbs.f l (Ps l st) en st.2 = some (verbal st, Ps l st, en, st.2) := by
 obtain ⟨a, h⟩ := look0 l hl en st hs
 unfold parse_parser_verbs.f
 rw [h]
 simp only [Option.bind_some]
 unfold verbal
 by_cases h4 : kd0 st = 4
 ·rw [if_pos h4, h4]; rfl
 ·have e4 : (kd0 st == 4) = false := by rw [beq_eq_false_iff_ne]; exact h4
  rw [if_neg h4, e4]
  by_cases h3 : kd0 st = 3
  ·rw [if_pos h3, h3]; rfl
  ·have e3 : (kd0 st == 3) = false := by rw [beq_eq_false_iff_ne]; exact h3
   rw [if_neg h3, e3, is0 l hl en st hs]
   rfl
end
def EOk (l : List Tt) (en : Int) (EXF : EX_F) (E : ES) (n : Nat) : Prop := GoodE E n ∧ ∀ st, st.1 <:+ l → meas st < n → EXF l (Ps l st) en st.2 = some ((E st).1, Ps l (E st).2, en, (E st).2.2)
theorem Taken.suf {a b : PSt} {l : List Tt} (h : Taken a b) (hs : a.1 <:+ l) : b.1 <:+ l := h.1.trans hs
theorem verb0 (l : List Tt) (hl : l.length ≤ 1000000) (en : Int) (EXF : EX_F) (E : ES) (n : Nat) (hE : EOk l en EXF E n) (k : Nat) (hk : 1 ≤ k) (st : PSt) (hs : st.1 <:+ l) (hv : verbal st = true) (hm : meas st < n + 1) (kind : Int) (a2 : ByteArray) :
  parse_parser_verb.f EXF k l (Ps l st) en st.2 kind a2 = some ((verbS E kind (L a2) st).1.f0, (verbS E kind (L a2) st).1.f1, (verbS E kind (L a2) st).1.f2, (verbS E kind (L a2) st).1.f3, (verbS E kind (L a2) st).1.f4, (verbS E kind (L a2) st).2.1, Ps l (verbS E kind (L a2) st).2.2, en, (verbS E kind (L a2) st).2.2.2) := by
 obtain ⟨k, rfl⟩ : ∃ j, k = j + 1 := ⟨k - 1, by omega⟩
 have hkd : kd0 st ≠ 0 := by rcases verbal_kd hv with h | h | h <;> rw [h] <;> decide
 obtain ⟨hn, hb, hms⟩ := meas_next hkd hm
 obtain ⟨ht, hl1⟩ := kd0_taken hkd
 obtain ⟨a, h⟩ := look0 l hl en st hs
 have hsn : (next st).1 <:+ l := ht.suf hs
 unfold parse_parser_verb.f
 rw [h]
 simp only [Option.bind_some]
 rw [Ps_next l hl st hs hkd]
 
 have hj : ∀ (body : List Nn) (b : PSt), b.1 <:+ l → parse_parser_verb.j0 EXF (k + 1) a2 body l (Ps l b) en b.2 kind (tx0 st) (⟨#[]⟩ : ByteArray) (⟨#[]⟩ : ByteArray) = some (if kd0 b = 5 then (kind, tx0 st, tx0 b, (⟨#[]⟩ : ByteArray), ([] : List ByteArray), body, Ps l (if advOk (L a2) (tx0 b) = true then next b else (b.1, true)), en, (if advOk (L a2) (tx0 b) = true then next b else (b.1, true)).2) else (kind, tx0 st, (⟨#[]⟩ : ByteArray), (⟨#[]⟩ : ByteArray), ([] : List ByteArray), body, Ps l b, en, b.2)) := by
  intro body b hbs
  obtain ⟨a', h'⟩ := look0 l hl en b hbs
  rw [parse_parser_verb.j0, h']
  simp only [Option.bind_some]
  by_cases h5 : kd0 b = 5
  ·rw [if_pos h5, if_pos h5]
   have hkb : kd0 b ≠ 0 := by rw [h5]; decide
   have hbb := (kd0_pos hkb).1
   have hP := Ps_bounds l hl b
   have hw : wrap64 (Ps l (next b) - 1) = Ps l b := by
    have h1 := Ps_next l hl b hbs hkb
    rw [wrap_id (by omega) (by omega)] at h1
    rw [wrap_id (by omega) (by omega)]; omega
   rw [Ps_next l hl b hbs hkb, hw]
   clear hw
   have hnb : (next b).2 = false := hbb
   unfold advOk
   have hz : (tx0 b).size = (L (tx0 b)).length := L_size _
   cases hc : L (tx0 b) with
   | nil =>
    rw [hc, List.length_nil] at hz
    rw [if_neg (by omega)]
    simp [Ps]
   | cons c r =>
    cases r with
    | nil =>
     rw [hc, List.length_singleton] at hz
     have hcf : strings_Contains.f a2 (tx0 b) = some ((L a2).contains c) := by
      unfold strings_Contains.f
      have hc' : (tx0 b).data.toList = [c] := hc
      rw [hc']
     rw [if_pos (by omega), hcf]
     simp only [Option.bind_some]
     by_cases hcc : (L a2).contains c = true
     ·simp only [hcc, if_true, Bool.not_true, hnb]
     ·rw [Bool.not_eq_true] at hcc
      simp only [hcc, Bool.false_eq_true, if_false, Bool.not_false]
      rfl
    | cons d r =>
     rw [hc, List.length_cons, List.length_cons] at hz
     rw [if_neg (by omega)]
     simp [Ps]
  ·rw [if_neg h5, if_neg h5]
 have h123 : (tx0 st).toList = ([123] : List UInt8) ↔ tx0 st = ⟨#[123]⟩ := by
  rw [toList_L]
  exact ⟨fun h => L_ext h, fun h => by rw [h]⟩
 unfold verbS
 by_cases hbody : tx0 st = ⟨#[123]⟩
 ·rw [if_pos (h123.2 hbody)]
  have he := hE.2 (next st) hsn hn
  have hf := hE.1 (next st) hn
  have hmk := markS_taken 125 (E (next st)).2
  rw [show EXF l (Ps l (next st)) en st.2 = EXF l (Ps l (next st)) en (next st).2 from rfl, he]
  simp only [Option.bind_some]
  rw [mark0 l hl en (E (next st)).2 (hf.taken.suf hsn) 125]
  simp only [Option.bind_some]
  rw [hj _ _ (hmk.suf (hf.taken.suf hsn))]
  simp only [hbody, if_true]
  by_cases h5 : kd0 (markS 125 (E (next st)).2) = 5
  ·simp only [h5, if_true]
  ·simp only [h5, if_false]
 ·rw [if_neg (fun e => hbody (h123.1 e))]
  rw [show parse_parser_verb.j0 EXF (k + 1) a2 ([] : List Nn) l (Ps l (next st)) en st.2 kind (tx0 st) (⟨#[]⟩ : ByteArray) (⟨#[]⟩ : ByteArray) = parse_parser_verb.j0 EXF (k + 1) a2 ([] : List Nn) l (Ps l (next st)) en (next st).2 kind (tx0 st) (⟨#[]⟩ : ByteArray) (⟨#[]⟩ : ByteArray) from rfl, hj _ _ hsn]
  simp only [hbody, if_false]
  by_cases h5 : kd0 (next st) = 5
  ·simp only [h5, if_true]
  ·simp only [h5, if_false]
theorem lit0 (l : List Tt) (hl : l.length ≤ 1000000) (hsz : ∀ t ∈ l, t.f1.size ≤ 1000000) (en : Int) : ∀ (m : List Tt) (acc : List ByteArray) (k : Nat), m <:+ l → acc.length ≤ 100 → m.length + 2300 ≤ k →
  parse_parser_literal.l0 k l (Ps l (m, false)) en false 1 (⟨#[]⟩ : ByteArray) (⟨#[]⟩ : ByteArray) (⟨#[]⟩ : ByteArray) acc = some ([⟨1, ⟨#[]⟩, ⟨#[]⟩, ⟨#[]⟩, (litS acc m).1⟩], Ps l (litS acc m).2, en, (litS acc m).2.2) := by
 intro m
 induction m with
 | nil =>
  intro acc k hs ha hk
  obtain ⟨k, rfl⟩ : ∃ j, k = j + 1 := ⟨k - 1, by omega⟩
  obtain ⟨a, h⟩ := look0 l hl en ([], false) hs
  have h' : parse_parser_look.f l (Ps l ([], false)) en false 0 = _ := h
  rw [parse_parser_literal.l0, h']
  simp only [Option.bind_some]
  rw [if_neg (by decide), Node_eq _ _ _ _ _ _ (by decide) (by decide) k (by omega)]
  rfl
 | cons t r ih =>
  intro acc k hs ha hk
  rw [List.length_cons] at hk
  obtain ⟨k, rfl⟩ : ∃ j, k = j + 1 := ⟨k - 1, by omega⟩
  obtain ⟨a, h⟩ := look0 l hl en (t :: r, false) hs
  have h' : parse_parser_look.f l (Ps l (t :: r, false)) en false 0 = some (t.f0, t.f1, a, Ps l (t :: r, false), en, false) := h
  rw [parse_parser_literal.l0, h']
  simp only [Option.bind_some, litS]
  by_cases h1 : t.f0 = 1
  ·rw [if_pos h1, if_pos h1]
   by_cases h2 : acc.length = 100
   ·rw [if_pos (by omega), if_pos h2, Node_eq _ _ _ _ _ _ (by decide) (by decide) k (by omega)]
    rfl
   ·rw [if_neg (by omega), if_neg h2, h']
    simp only [Option.bind_some]
    have ht : t ∈ l := hs.subset List.mem_cons_self
    rw [number_eq t.f1 (by have := hsz t ht; omega) k (by omega)]
    simp only [Option.bind_some]
    have hb : acc.length < 8796093022208 := Nat.lt_of_le_of_lt ha (by decide)
    have hp := Ps_next l hl (t :: r, false) hs (by show t.f0 ≠ 0; rw [h1]; decide)
    rw [if_pos hb, hp]
    exact ih (acc ++ [numS t.f1]) k ((List.suffix_cons t r).trans hs) (by rw [List.length_append, List.length_singleton]; omega) (by omega)
  ·rw [if_neg h1, if_neg h1, Node_eq _ _ _ _ _ _ (by decide) (by decide) k (by omega)]
   rfl
theorem atom0 (l : List Tt) (hl : l.length ≤ 1000000) (hsz : ∀ t ∈ l, t.f1.size ≤ 1000000) (en : Int) (EXF : EX_F) (E : ES) (n : Nat) (hE : EOk l en EXF E n) (k : Nat) (hk : l.length + 2400 ≤ k) (st : PSt) (hs : st.1 <:+ l) (hm : meas st < n + 1) :
  parse_parser_atom.f EXF k l (Ps l st) en st.2 = some ((atomS E st).1, Ps l (atomS E st).2, en, (atomS E st).2.2) := by
 obtain ⟨a, h⟩ := look0 l hl en st hs
 unfold parse_parser_atom.f
 rw [h]
 simp only [Option.bind_some]
 unfold atomS
 by_cases h1 : kd0 st = 1
 ·rw [if_pos h1, if_pos h1]
  have hb := (kd0_pos (show kd0 st ≠ 0 by rw [h1]; decide)).1
  obtain ⟨m, b⟩ := st
  simp only at hb
  subst hb
  unfold parse_parser_literal.f
  rw [show (m, false).2 = false from rfl, lit0 l hl hsz en m [] k hs (by simp) (by have := hs.length_le; simp only at this; omega)]
  rfl
 ·rw [if_neg h1, if_neg h1]
  by_cases h2 : kd0 st = 2
  ·rw [if_pos h2, if_pos h2, Node_eq _ _ _ _ _ _ (by decide) (by decide) k (by omega)]
   simp only [Option.bind_some]
   rw [Ps_next l hl st hs (by rw [h2]; decide)]
   rfl
  ·rw [if_neg h2, if_neg h2, mark0 l hl en st hs 40]
   simp only [Option.bind_some]
   by_cases h3 : (markS 40 st).2 = true
   ·rw [if_pos h3, if_pos h3]
   ·rw [if_neg h3, if_neg h3]
    have hM : isM 40 st = true := by
     unfold markS at h3
     by_cases h : isM 40 st = true
     ·exact h
     ·rw [if_neg h] at h3; exact absurd rfl h3
    have hkd : kd0 st ≠ 0 := by rw [isM_kd hM]; decide
    obtain ⟨hn, hb, hms⟩ := meas_next hkd hm
    have he : markS 40 st = next st := by unfold markS; rw [if_pos hM]
    obtain ⟨ht, hl1⟩ := kd0_taken hkd
    rw [he]
    have hf := hE.1 (next st) hn
    rw [hE.2 (next st) (ht.suf hs) hn]
    simp only [Option.bind_some]
    rw [mark0 l hl en (E (next st)).2 (hf.taken.suf (ht.suf hs)) 41]
    rfl
theorem idx0 (l : List Tt) (hl : l.length ≤ 1000000) (en : Int) (EXF : EX_F) (E : ES) (n : Nat) (hE : EOk l en EXF E n) : ∀ (m : Nat) (x : List Nn) (st : PSt) (k : Nat), st.1 <:+ l → meas st < n + 1 → st.1.length ≤ m → x.length + st.1.length ≤ l.length → m + 2300 ≤ k →
  parse_parser_term.l0 EXF k x l (Ps l st) en st.2 = some ((idxS E m x st).1, Ps l (idxS E m x st).2, en, (idxS E m x st).2.2) := by
 intro m
 induction m with
 | zero =>
  intro x st k hs hm hmm hx hk
  obtain ⟨k, rfl⟩ : ∃ j, k = j + 1 := ⟨k - 1, by omega⟩
  have : isM 91 st = false := by
   rw [← Bool.not_eq_true]
   intro h
   have := (kd0_taken (show kd0 st ≠ 0 by rw [isM_kd h]; decide)).2
   omega
  rw [parse_parser_term.l0, is0 l hl en st hs 91, this]
  rfl
 | succ m ih =>
  intro x st k hs hm hmm hx hk
  obtain ⟨k, rfl⟩ : ∃ j, k = j + 1 := ⟨k - 1, by omega⟩
  rw [parse_parser_term.l0, is0 l hl en st hs 91]
  simp only [Option.bind_some, idxS]
  by_cases h : isM 91 st = true
  ·rw [if_pos h, if_pos h]
   have hkd : kd0 st ≠ 0 := by rw [isM_kd h]; decide
   obtain ⟨hn, hb, hms⟩ := meas_next hkd hm
   obtain ⟨ht, hl1⟩ := kd0_taken hkd
   have hf := hE.1 (next st) hn
   have hmk := markS_taken 93 (E (next st)).2
   have hll := hmk.len
   have hfl := hf.2.1
   rw [Ps_next l hl st hs hkd, show EXF l (Ps l (next st)) en st.2 = EXF l (Ps l (next st)) en (next st).2 from rfl, hE.2 (next st) (ht.suf hs) hn]
   simp only [Option.bind_some]
   rw [mark0 l hl en (E (next st)).2 (hf.taken.suf (ht.suf hs)) 93]
   simp only [Option.bind_some]
   have hlens : lens [x, (E (next st)).1] ≤ 1000000 := by
    simp only [lens, List.map_cons, List.map_nil, List.sum_cons, List.sum_nil]
    omega
   rw [Node_eq _ _ _ _ _ _ (by simp only [List.length_cons, List.length_nil]; omega) hlens k (by omega)]
   simp only [Option.bind_some]
   have hfl2 : [x, (E (next st)).1].flatten = x ++ (E (next st)).1 := by simp
   rw [hfl2]
   have := ih (nd0 8 :: (x ++ (E (next st)).1)) (markS 93 (E (next st)).2) k (hmk.suf (hf.taken.suf (ht.suf hs))) (by have := meas_taken (hf.taken.trans hmk) hn; omega) (by omega) (by rw [List.length_cons, List.length_append]; omega) (by omega)
   exact this
  ·rw [if_neg h, if_neg h]
theorem term0 (l : List Tt) (hl : l.length ≤ 1000000) (hsz : ∀ t ∈ l, t.f1.size ≤ 1000000) (en : Int) (EXF : EX_F) (E : ES) (n : Nat) (hE : EOk l en EXF E n) (k : Nat) (hk : l.length + 2400 ≤ k) (st : PSt) (hs : st.1 <:+ l) (hm : meas st < n + 1) :
  parse_parser_term.f EXF k l (Ps l st) en st.2 = some ((termS E st).1, Ps l (termS E st).2, en, (termS E st).2.2) := by
 unfold parse_parser_term.f
 rw [atom0 l hl hsz en EXF E n hE k hk st hs hm]
 simp only [Option.bind_some]
 have ha := (atomS_fine E n hE.1 st hm).1
 have h1 := hs.length_le
 have h2 := ha.taken.len
 have h3 := ha.2.1
 exact idx0 l hl en EXF E n hE (atomS E st).2.1.length (atomS E st).1 (atomS E st).2 k (ha.taken.suf hs) (meas_taken ha.taken hm) (Nat.le_refl _) (by omega) (by omega)
theorem exprB0 (l : List Tt) (hl : l.length ≤ 1000000) (hsz : ∀ t ∈ l, t.f1.size ≤ 1000000) (en : Int) (EXF : EX_F) (E : ES) (n : Nat) (hE : EOk l en EXF E n) (k : Nat) (hk : l.length + 2400 ≤ k) (st : PSt) (hs : st.1 <:+ l) (hm : meas st < n + 1) :
  parse_parser_exprB.f EXF k l (Ps l st) en st.2 = some ((exprB E st).1, Ps l (exprB E st).2, en, (exprB E st).2.2) := by
 unfold parse_parser_exprB.f exprB
 rw [verbs0 l hl en st hs]
 simp only [Option.bind_some]
 by_cases h1 : verbal st = true
 ·rw [if_pos h1, if_pos h1, verb0 l hl en EXF E n hE k (by omega) st hs h1 hm 3 _]
  simp only [Option.bind_some]
  obtain ⟨v1, v2, v3⟩ := verbS_fine E n hE.1 3 oneB st h1 hm
  have e1 : L (⟨#[39, 47, 92, 96]⟩ : ByteArray) = oneB := rfl
  have hf := hE.1 _ v3
  rw [e1, hE.2 _ (v1.suf hs) v3]
  simp only [Option.bind_some]
  have hlen := hs.length_le
  have hlens : lens [(verbS E 3 oneB st).2.1, (E (verbS E 3 oneB st).2.2).1] ≤ 1000000 := by
   simp only [lens, List.map_cons, List.map_nil, List.sum_cons, List.sum_nil]
   have := hf.2.1
   omega
  rw [Node_eq _ _ _ _ _ _ (by simp only [List.length_cons, List.length_nil]; omega) hlens k (by omega)]
  simp only [Option.bind_some, exprV, List.nil_append]
  have hfl2 : [(verbS E 3 oneB st).2.1, (E (verbS E 3 oneB st).2.2).1].flatten = (verbS E 3 oneB st).2.1 ++ (E (verbS E 3 oneB st).2.2).1 := by simp
  rw [hfl2]
 ·rw [if_neg h1, if_neg h1, term0 l hl hsz en EXF E n hE k hk st hs hm]
  simp only [Option.bind_some]
  have ht := termS_fine E n hE.1 st hm
  rw [verbs0 l hl en (termS E st).2 (ht.taken.suf hs)]
  simp only [Option.bind_some]
  by_cases h2 : verbal (termS E st).2 = true
  ·rw [if_pos h2, if_pos h2, verb0 l hl en EXF E n hE k (by omega) (termS E st).2 (ht.taken.suf hs) h2 (meas_taken ht.taken hm) 4 _]
   simp only [Option.bind_some]
   obtain ⟨v1, v2, v3⟩ := verbS_fine E n hE.1 4 twoB (termS E st).2 h2 (meas_taken ht.taken hm)
   have e1 : L (⟨#[39, 46]⟩ : ByteArray) = twoB := rfl
   have hf := hE.1 _ v3
   rw [e1, hE.2 _ (v1.suf (ht.taken.suf hs)) v3]
   simp only [Option.bind_some]
   have hlen := hs.length_le
   have hlens : lens [(verbS E 4 twoB (termS E st).2).2.1, (termS E st).1, (E (verbS E 4 twoB (termS E st).2).2.2).1] ≤ 1000000 := by
    simp only [lens, List.map_cons, List.map_nil, List.sum_cons, List.sum_nil]
    have := hf.2.1
    have := ht.2.1
    omega
   rw [Node_eq _ _ _ _ _ _ (by simp only [List.length_cons, List.length_nil]; omega) hlens k (by omega)]
   simp only [Option.bind_some, exprV]
   have hfl2 : [(verbS E 4 twoB (termS E st).2).2.1, (termS E st).1, (E (verbS E 4 twoB (termS E st).2).2.2).1].flatten = (verbS E 4 twoB (termS E st).2).2.1 ++ ((termS E st).1 ++ (E (verbS E 4 twoB (termS E st).2).2.2).1) := by simp
   rw [hfl2]
  ·rw [if_neg h2, if_neg h2]
end Go.Proofs.Ytdelccahgchadaa
end
section
namespace Go.Proofs.Ytdelccahgchadaa
open Go.RowKit Go.Lib Go.Proofs.Ytdelccahgchadaa.P Go.Proofs.YtdelccahgchadaaW.PrintWords Go.Proofs.YtdelccahgchadaaW.PrintMore
set_option linter.unusedVariables false
def SmallT (l : List Tt) : Prop := l.length ≤ 1000000 ∧ ∀ t ∈ l, t.f1.size ≤ 1000000
instance (l : List Tt) : Decidable (SmallT l) := inferInstanceAs (Decidable (_ ∧ _))
def EFK (K : Nat) : EX_F := fun l at_ en bad =>
 if SmallT l ∧ 0 ≤ at_ ∧ at_ ≤ (l.length : Int) ∧ meas (l.drop at_.toNat, bad) < K then
  some ((exprS K (l.drop at_.toNat, bad)).1, Ps l (exprS K (l.drop at_.toNat, bad)).2, en, (exprS K (l.drop at_.toNat, bad)).2.2)
 else none
theorem Ps_suffix (l : List Tt) (st : PSt) (hs : st.1 <:+ l) : (l.drop (Ps l st).toNat, st.2) = st := by
 unfold Ps
 rw [Int.toNat_natCast, (suffix_drop hs).1]
theorem EFK_ok (K : Nat) (l : List Tt) (hl : SmallT l) (en : Int) : EOk l en (EFK K) (exprS K) K := by
 refine ⟨exprS_good K, fun st hs hm => ?_⟩
 have hb := Ps_bounds l hl.1 st
 have hP : Ps l st ≤ (l.length : Int) := by unfold Ps; omega
 unfold EFK
 rw [Ps_suffix l st hs, if_pos ⟨hl, hb.1, hP, hm⟩]
theorem EFK_calls : ∀ K, EX_C (EFK K) := by
 intro K
 induction K with
 | zero =>
  refine ⟨fun g s0_0 s0_1 s0_2 s0_3 r1 r2 r3 r4 w0 w hI hB h => ?_⟩
  unfold EFK at h
  rw [if_neg (fun e => Nat.not_lt_zero _ e.2.2.2)] at h
  cases h
 | succ K ih =>
  refine ⟨fun g s0_0 s0_1 s0_2 s0_3 r1 r2 r3 r4 w0 w hI hB h => ?_⟩
  have hc : SmallT s0_0 ∧ 0 ≤ s0_1 ∧ s0_1 ≤ (s0_0.length : Int) ∧ meas (s0_0.drop s0_1.toNat, s0_3) < K + 1 := by
   unfold EFK at h
   by_cases hc : SmallT s0_0 ∧ 0 ≤ s0_1 ∧ s0_1 ≤ (s0_0.length : Int) ∧ meas (s0_0.drop s0_1.toNat, s0_3) < K + 1
   ·exact hc
   ·rw [if_neg hc] at h; cases h
  refine parse_parser_exprB.calls (EFK K) ih (s0_0.length + 2400) g s0_0 s0_1 s0_2 s0_3 r1 r2 r3 r4 w0 w hI hB ?_
  have hs : (s0_0.drop s0_1.toNat, s0_3).1 <:+ s0_0 := List.drop_suffix _ _
  have hP : Ps s0_0 (s0_0.drop s0_1.toNat, s0_3) = s0_1 := by
   unfold Ps
   simp only [List.length_drop]
   omega
  have hb := exprB0 s0_0 hc.1.1 hc.1.2 s0_2 (EFK K) (exprS K) K (EFK_ok K s0_0 hc.1 s0_2) (s0_0.length + 2400) (Nat.le_refl _) (s0_0.drop s0_1.toNat, s0_3) hs hc.2.2.2
  rw [hP] at hb
  rw [hb]
  unfold EFK at h
  rw [if_pos hc] at h
  exact h
end Go.Proofs.Ytdelccahgchadaa
namespace Go.Proofs.Ytdelccahgchadaa.P
open Go.RowKit Go.Proofs.Ytdelccahgchadaa Go.Proofs.YtdelccahgchadaaW.PrintWords Go.Proofs.YtdelccahgchadaaW.PrintMore
def parse_parser_expr.f (s0_0 : List S71) (s0_1 s0_2 : Int) (s0_3 : Bool) : Option (List S25 × Int × Int × Bool) := EFK (s0_0.length + 1) s0_0 s0_1 s0_2 s0_3
theorem parse_parser_expr.callsC : EX_C parse_parser_expr.f := ⟨fun g s0_0 s0_1 s0_2 s0_3 r1 r2 r3 r4 w0 w hI hB h => (EFK_calls (s0_0.length + 1)).out g s0_0 s0_1 s0_2 s0_3 r1 r2 r3 r4 w0 w hI hB h⟩
theorem parse_parser_expr.calls (g : Nat) (s0_0 : List S71) (s0_1 s0_2 : Int) (s0_3 : Bool) (r1 : List S25) (r2 r3 : Int) (r4 : Bool) (w0 w : World) (hI : IsS83 w0 w g s0_0 s0_1 s0_2 s0_3) (hB : Below w0.heap.size w0 w) (h : parse_parser_expr.f s0_0 s0_1 s0_2 s0_3 = some (r1, r2, r3, r4)) :
  Calls Try.prog 93 #[.pointer (some ⟨g, 0, none⟩)] w fun e w' => ∃ v0_ : Value, e = .returned (v0_) ∧ Kd.N k25 25 w' w.heap.size (fun k_ => (w.heap.size ≤ k_)) v0_ r1 ∧ IsS83 w0 w' g s0_0 r2 r3 r4 ∧ Below w0.heap.size w0 w' ∧ KeepBut w w' g none :=
 parse_parser_expr.callsC.out g s0_0 s0_1 s0_2 s0_3 r1 r2 r3 r4 w0 w hI hB h
end Go.Proofs.Ytdelccahgchadaa.P
end
section
namespace Go.Proofs.Ytdelccahgchadaa.P
open Go.RowKit Go.Proofs.YtdelccahgchadaaW.PrintWords Go.Proofs.YtdelccahgchadaaW.PrintLast Go.Proofs.YtdelccahgchadaaW.PrintMore
attribute [local go_sem] max2_int min2_int max_two min_two max_three min_three max_four min_four   
set_option linter.unusedVariables false
set_option linter.unusedSimpArgs false
def parse_parser_amend.f (k : Nat) (s0_0 : List (S71)) (s0_1 : Int) (s0_2 : Int) (s0_3 : Bool) : Option ((List (S25)) × Int × Int × Bool) := (parse_parser_look.f s0_0 s0_1 s0_2 s0_3 0).bind fun bt439 => ((parse_parser_expr.f s0_0 (wrap64 (bt439.2.2.2.1 + 2)) bt439.2.2.2.2.1 bt439.2.2.2.2.2).bind fun bt446 => ((parse_parser_mark.f s0_0 bt446.2.1 bt446.2.2.1 bt446.2.2.2 (⟨#[93]⟩ : ByteArray)).bind fun bt452 => ((parse_parser_is.f s0_0 bt452.1 bt452.2.1 bt452.2.2 0 (⟨#[58]⟩ : ByteArray)).bind fun bt455 => (if bt455.1 = true then ((parse_parser_expr.f s0_0 (wrap64 (bt455.2.1 + 1)) bt455.2.2.1 bt455.2.2.2).bind fun bt459 => ((tree_Node.f k 6 (⟨#[]⟩ : ByteArray) (⟨#[]⟩ : ByteArray) bt439.2.1 ([] : List ByteArray) (([bt446.1, bt459.1] : List (List (S25))))).bind fun t468 => (some (t468, bt459.2.1, bt459.2.2.1, bt459.2.2.2)))) else (some (([] : List (S25)), 0, bt455.2.2.1, false))))))
theorem parse_parser_amend.mono : ∀ a0 a1 a2 a3 k, LeO (parse_parser_amend.f k a0 a1 a2 a3) (parse_parser_amend.f (k + 1) a0 a1 a2 a3) := by
 intro a0 a1 a2 a3 k
 unfold parse_parser_amend.f
 with_reducible repeat' first
   | exact tree_Node.mono _ _ _ _ _ _ _
   | exact LeO.refl _
   | exact LeO.none _
   | refine LeO.ite ?_ ?_
   | refine LeO.bind ?_ (fun _ => ?_)
theorem tree_Node_ne {k : Nat} {a : Int} {b c d : ByteArray} {e : List ByteArray} {l : List (List (S25))} {r : List (S25)} (h : Aside0 (tree_Node.f k a b c d e l = some r)) : r ≠ [] := by
 have h := h.out
 unfold tree_Node.f at h
 simp only [Option.bind_some] at h
 obtain ⟨t, _, h⟩ := Option.bind_eq_some_iff.mp h
 split at h
 ·injection h with h
  rw [← h]
  exact fun e => by cases e
 ·cases h
set_option maxHeartbeats 8000000 in
set_option maxRecDepth 100000 in
theorem parse_parser_amend.calls (k : Nat) (g : Nat) (s0_0 : List (S71)) (s0_1 : Int) (s0_2 : Int) (s0_3 : Bool) (r1 : List (S25)) (r2 : Int) (r3 : Int) (r4 : Bool) (w0 w : World) (hI : IsS83 w0 w g s0_0 s0_1 s0_2 s0_3) (hB : Below w0.heap.size w0 w) (h : parse_parser_amend.f k s0_0 s0_1 s0_2 s0_3 = some (r1, r2, r3, r4)) :
  Calls Try.prog 95 #[.pointer (some ⟨g, 0, none⟩)] w fun e w' => ∃ v0_ : Value, e = .returned (v0_) ∧ (r1 = [] → v0_ = .slice none 0 0) ∧ Kd.N k25 25 w' w.heap.size (fun k_ => (w.heap.size ≤ k_)) v0_ r1 ∧ IsS83 w0 w' g s0_0 r2 r3 r4 ∧ Below w0.heap.size w0 w' ∧ KeepBut w w' g none := by
 have hu25 := Try.underlying25
 have HI0 := am hI
 have HK := am (KeepBut.refl w g none)
 have HL := am hB.size
 clear hI
 have HW0 := am hB.size
 have HB := am hB
 clear hB
 unfold parse_parser_amend.f at h
 have H := h
 clear h
 obtain ⟨⟨t439, t440, t441, t442, t443, t444⟩, A2, H⟩ := bO H
 try dsimp only at H
 obtain ⟨⟨t446, t449, t450, t451⟩, A3, H⟩ := bO H
 try dsimp only at H
 obtain ⟨⟨t452, t453, t454⟩, A4, H⟩ := bO H
 try dsimp only at H
 obtain ⟨⟨t455, t456, t457, t458⟩, A5, H⟩ := bO H
 try dsimp only at H
 by_cases c6 : t455 = true
 ·subst c6
  rw [if_pos rfl] at H
  obtain ⟨⟨t459, t462, t463, t464⟩, A7, H⟩ := bO H
  try dsimp only at H
  obtain ⟨y465, hy465⟩ : ∃ y_ : List (List (S25)), y_ = (([t446, t459] : List (List (S25)))) := ⟨_, rfl⟩
  replace H : ((tree_Node.f k 6 (⟨#[]⟩ : ByteArray) (⟨#[]⟩ : ByteArray) t440 ([] : List ByteArray) y465).bind fun t468 => (some (t468, t462, t463, t464))) = some (r1, r2, r3, r4) := by first | (rw [hy465]; with_reducible exact H) | (have H2_ := (Option.bind_some _ _).symm.trans H; rw [hy465]; with_reducible exact H2_) | (have H2_ := (Option.bind_some _ _).symm.trans H; with_reducible exact H2_) | with_reducible exact H | (rw [hy465]; exact H) | exact H
  have Ny465 := am hy465
  clear hy465
  obtain ⟨t468, A8, H⟩ := bO H
  try dsimp only at H
  simp only [Option.some.injEq, Prod.mk.injEq] at H
  obtain ⟨rfl, rfl, rfl, rfl⟩ := H
  go_enter Try.func95, Try.ntmps95
  try go_wp2_with (first | ((with_reducible refine gC 67 rfl ?_); refine gL (some 6) Try.func67 #[.pointer (some ⟨g, 0, none⟩), .int .i64 0] ?_; (with_reducible refine (parse_parser_look.calls _ _ _ _ _ _ _ _ _ _ _ _ w0 _ ?side1 ?side2 A2.out).mono ?_); (case side1 => exact yI); (case side2 => exact (kLI HB)); rintro e w9 ⟨rfl, hi, hb, hk⟩; refine ⟨_, rfl, ?_⟩; replace HK := am (KeepBut.trans (kK HK) hk (.inl rfl)); replace HB := am hb; replace HI0 := am hi; (try clear hi hb hk)) | ((with_reducible refine gD 3 rfl ?_); refine bx 3 #[.int .i64 0, .string (⟨#[]⟩ : ByteArray), .string (⟨#[]⟩ : ByteArray), .string (⟨#[]⟩ : ByteArray), .slice none 0 0] 25 ?_; intro gb445 hg w10 hbox hb; replace HB := am (below_step (kLI HB) hb); have BK445 := am hbox; have GW445 := am ((by rw [hg]; exact (keep_size (w := w) (g := g) (row := none) (kK HK)) : w.heap.size ≤ gb445)); have GE445 := am ((Nat.le_trans HW0.out (by rw [hg]; exact (keep_size (w := w) (g := g) (row := none) (kK HK)) : w.heap.size ≤ gb445) : w0.heap.size ≤ gb445)); replace HK := am (KeepBut.trans (kK HK) (KeepBut.of_below hb g none) (.inl rfl)); have NB0_445 := am ((by rw [hg]; exact Nat.ne_of_lt (IsS83.lt (show IsS83 w0 _ g s0_0 t442 t443 t444 from yI)) : g ≠ gb445)); have NB445_0 := am ((by rw [hg]; exact Nat.ne_of_gt (IsS83.lt (show IsS83 w0 _ g s0_0 t442 t443 t444 from yI)) : gb445 ≠ g)); replace HI0 := am (IsS83.below yI hb); clear hb hbox hg; have hnb11 := NB445_0.out; have hnc11 := NB0_445.out; obtain ⟨hcz12_0, hcz12_1, hcz12_2, hcz12_3, hcz12_4, hfz12_0, hfz12_1, hfz12_2, hfz12_3, hfz12_4⟩ := bk5 BK445.out; obtain ⟨ASz13_0, cSz13_0, HSz13_0, hcz13_0, hcz13_1, hcz13_2, hcz13_3, hfz13_1, hfz13_2, hfz13_3⟩ := IsS83.look HI0.out) | ((with_reducible refine gC 93 rfl ?_); refine gL (some 17) Try.func93 #[.pointer (some ⟨g, 0, none⟩)] ?_; (with_reducible refine (parse_parser_expr.calls _ _ _ _ _ _ _ _ _ w0 _ ?side1 ?side2 A3.out).mono ?_); (case side1 => exact yI); (case side2 => exact (kLI HB)); rintro e w14 ⟨v447, rfl, ho0, hi, hb, hk⟩; refine ⟨_, rfl, ?_⟩; have HO448 := am (Kd.N_lower (Kd.N_mono (ok' := fun k_ => (w.heap.size ≤ k_) ∧ k_ ≠ gb445 ∧ k_ ≠ g) ho0 (fun k_ hk_ => ⟨(Nat.le_trans (keep_size (w := w) (g := g) (row := none) (kK HK)) hk_), (fB BK445 k_ hk_), (IsS83.fresh yI k_ hk_)⟩)) (keep_size (w := w) (g := g) (row := none) (kK HK))); replace BK445 := am (KeepBut.blk hk (g' := gb445) (o := .cells #[.int .i64 6, .string (⟨#[]⟩ : ByteArray), .string (⟨#[]⟩ : ByteArray), .string t440, .slice none 0 0] 25 (0, 0)) (kM BK445) NB445_0.out (by simp)); replace HK := am (KeepBut.trans (kK HK) hk (.inl rfl)); replace HB := am hb; replace HI0 := am hi; (try clear ho0 hi hb hk)) | ((with_reducible refine gC 94 rfl ?_); refine gL (some 19) Try.func94 #[.pointer (some ⟨g, 0, none⟩), .string (⟨#[93]⟩ : ByteArray)] ?_; (with_reducible refine (parse_parser_mark.calls _ _ _ _ _ _ _ _ _ w0 _ ?side1 ?side2 A4.out).mono ?_); (case side1 => exact yI); (case side2 => exact (kLI HB)); rintro e w15 ⟨rfl, hi, hb, hk⟩; refine ⟨_, rfl, ?_⟩; replace BK445 := am (KeepBut.blk hk (kB BK445) NB445_0.out (by simp)); replace HO448 := am (Kd.N_mono (Kd.N_keep (Kd.N_mono (ok := fun k_ => (((w.heap.size ≤ k_)) ∧ (k_ ≠ gb445 ∧ k_ ≠ g))) (nB HO448) (fun k_ hk_ => (⟨hk_, hk_.2.2⟩ : _ ∧ k_ ≠ g))) hk (fun _ h => h.2)) (fun _ h => h.1)); replace HK := am (KeepBut.trans (kK HK) hk (.inl rfl)); replace HB := am hb; replace HI0 := am hi; (try clear hi hb hk)) | ((with_reducible refine gC 92 rfl ?_); refine gL (some 21) Try.func92 #[.pointer (some ⟨g, 0, none⟩), .int .i64 0, .string (⟨#[58]⟩ : ByteArray)] ?_; (with_reducible refine (parse_parser_is.calls _ _ _ _ _ _ _ _ _ _ _ w0 _ ?side1 ?side2 A5.out).mono ?_); (case side1 => exact yI); (case side2 => exact (kLI HB)); rintro e w16 ⟨rfl, hi, hb, hk⟩; refine ⟨_, rfl, ?_⟩; replace BK445 := am (KeepBut.blk hk (kB BK445) NB445_0.out (by simp)); replace HO448 := am (Kd.N_mono (Kd.N_keep (Kd.N_mono (ok := fun k_ => (((w.heap.size ≤ k_)) ∧ (k_ ≠ gb445 ∧ k_ ≠ g))) (nB HO448) (fun k_ hk_ => (⟨hk_, hk_.2.2⟩ : _ ∧ k_ ≠ g))) hk (fun _ h => h.2)) (fun _ h => h.1)); replace HK := am (KeepBut.trans (kK HK) hk (.inl rfl)); replace HB := am hb; replace HI0 := am hi; (try clear hi hb hk); obtain ⟨ASz17_0, cSz17_0, HSz17_0, hcz17_0, hcz17_1, hcz17_2, hcz17_3, hfz17_1, hfz17_2, hfz17_3⟩ := IsS83.look HI0.out))
  have n0_ : Aside0 (Kd.N k25 25 (w16.setCell ⟨g, 1, none⟩ (.int .i64 (wrap64 (t456 + 1)))) w.heap.size (fun k_ => (w.heap.size ≤ k_) ∧ k_ ≠ gb445 ∧ k_ ≠ g) v447 t446) := ⟨by (with_reducible repeat (first | apply Kd.N_alloc | apply Kd.N_drewN | apply Kd.N_drew)); exact Kd.N_mono (Kd.N_far (p := ⟨g, 1, none⟩) (Kd.N_mono HO448.out (fun k_ hk => (⟨hk, hk.2.2⟩ : _ ∧ k_ ≠ g))) (fun _ hk => hk.2) (.int .i64 (wrap64 (t456 + 1)))) (fun _ hk => ⟨hk.1.1, ⟨hk.1.2.1, hk.1.2.2⟩⟩)⟩
  have n1_ : Aside0 ((w16.setCell ⟨g, 1, none⟩ (.int .i64 (wrap64 (t456 + 1)))).heap[gb445]? = some (.cells #[.int .i64 6, .string (⟨#[]⟩ : ByteArray), .string (⟨#[]⟩ : ByteArray), .string t440, .slice none 0 0] 25 (0, 0))) := ⟨kM BK445⟩
  have n2_ : Aside0 (IsS83 w0 (w16.setCell ⟨g, 1, none⟩ (.int .i64 (wrap64 (t456 + 1)))) g s0_0 (wrap64 (t456 + 1)) t457 t458) := ⟨yI⟩
  have n3_ : Aside0 (KeepBut w (w16.setCell ⟨g, 1, none⟩ (.int .i64 (wrap64 (t456 + 1)))) g none) := ⟨(kK HK)⟩
  have n4_ : Aside0 (Below w0.heap.size w0 (w16.setCell ⟨g, 1, none⟩ (.int .i64 (wrap64 (t456 + 1))))) := ⟨(kLI HB)⟩
  (try clear HO448)
  (try clear BK445)
  (try clear HI0)
  (try clear HK)
  (try clear HB)
  generalize (w16.setCell ⟨g, 1, none⟩ (.int .i64 (wrap64 (t456 + 1)))) = w18 at n0_ n1_ n2_ n3_ n4_ ⊢
  have HO448 := n0_
  have BK445 := n1_
  have HI0 := n2_
  have HK := n3_
  have HB := n4_
  clear n0_ n1_ n2_ n3_ n4_
  replace HO448 := am (Kd.N_drew HO448.out)
  replace BK445 := am (bD BK445.out)
  replace HI0 := am (IsS83.drew HI0.out)
  replace HK := am (keep_drew HK.out)
  replace HB := am (lD HB.out)
  refine start_ (n := 7) (S := fun w' => w'.cell? ⟨gb445, 0, none⟩ = some (.int .i64 6) ∧ w'.cell? ⟨gb445, 1, none⟩ = some (.string (⟨#[]⟩ : ByteArray)) ∧ w'.cell? ⟨gb445, 2, none⟩ = some (.string (⟨#[]⟩ : ByteArray)) ∧ w'.cell? ⟨gb445, 3, none⟩ = some (.string t440) ∧ w'.cell? ⟨gb445, 4, none⟩ = some (.slice none 0 0)) (ds := []) #[false, false, false, false, false, false, false] (by kernel_rfl) rfl rfl ⟨(blk_cell BK445.out 0).trans rfl, (blk_cell BK445.out 1).trans rfl, (blk_cell BK445.out 2).trans rfl, (blk_cell BK445.out 3).trans rfl, (blk_cell BK445.out 4).trans rfl⟩ (fun hHeld => ?_)
  generalize w18.drew = w19 at HO448 BK445 HI0 HK HB hHeld ⊢
  refine pure_ (i := 1) (N := some 37) (v := ?_) (a' := ?_) #[false, true, false, false, false, false, false] rfl rfl (by kernel_rfl) (fun _ _ _ h => h) (Or.inl ⟨by rfl, ?_⟩) ?_ ?_
  rotate_left
  ·intro w'
   go_simp
   with_reducible rfl
  rotate_left
  ·simp only [Act.put, zT, z0, zS, i64_w, i32_w]
   rfl
  refine pure_ (i := 2) (N := some 38) (v := ?_) (a' := ?_) #[false, true, true, false, false, false, false] rfl rfl (by kernel_rfl) (fun _ _ _ h => h) (Or.inl ⟨by rfl, ?_⟩) ?_ ?_
  rotate_left
  ·intro w'
   go_simp
   with_reducible rfl
  rotate_left
  ·simp only [Act.put, zT, z0, zS, i64_w, i32_w]
   rfl
  refine take_ (i := 0) (N := some 36) (v := ?_) (a' := ?_) #[true, true, true, false, false, false, false] rfl rfl (by kernel_rfl) (fun _ _ _ h => h) (Or.inl ⟨by rfl, ?_⟩) hHeld ?_ ?_
  rotate_left
  ·rintro w' ⟨s0, s1, s2, s3, s4⟩
   go_simp
   with_reducible rfl
  rotate_left
  ·simp only [Act.put, zT, z0, zS, i64_w, i32_w]
   rfl
  refine one_ (i := 3) (N := some 39) #[true, true, true, true, false, false, false] rfl rfl (by kernel_rfl) (by decide) (fun K hK => ?_)
  refine goes_ Try.func93 (by kernel_rfl) rfl #[.pointer (some ⟨g, 0, none⟩)] (by rfl) rfl rfl yA ?_
  with_reducible refine (parse_parser_expr.calls _ _ _ _ _ _ _ _ _ w0 _ ?side1 ?side2 A7.out).mono ?_
  (case side1 => exact yI)
  (case side2 => exact (kLI HB))
  rintro e w20 ⟨v460, rfl, ho0, hi, hb, hk⟩
  refine ⟨_, rfl, ?_⟩
  have HO461 := am (Kd.N_lower (Kd.N_mono (ok' := fun k_ => (w.heap.size ≤ k_) ∧ some k_ ≠ (v447 : Value).ownBlock ∧ k_ ≠ gb445 ∧ k_ ≠ g) ho0 (fun k_ hk_ => ⟨(Nat.le_trans (keep_size (w := w) (g := g) (row := none) (kK HK)) hk_), (Kd.fresh' (Kd.N_lt (nB HO448)) k_ hk_), (fB BK445 k_ hk_), (IsS83.fresh yI k_ hk_)⟩)) (keep_size (w := w) (g := g) (row := none) (kK HK)))
  replace BK445 := am (KeepBut.blk hk (kB BK445) NB445_0.out (by simp))
  replace HO448 := am (Kd.N_mono (Kd.N_told (Kd.N_oldK (Kd.N_mono (ok := fun k_ => (((w.heap.size ≤ k_)) ∧ (k_ ≠ gb445 ∧ k_ ≠ g))) (nB HO448) (fun k_ hk_ => (⟨hk_, hk_.2.2⟩ : _ ∧ k_ ≠ g))) hk) (Kd.N_base ho0)) (fun _ h_ => h_.1))
  replace HK := am (KeepBut.trans (kK HK) hk (.inl rfl))
  replace HB := am hb
  replace HI0 := am hi
  (try clear hb)
  (try clear hb2)
  (try clear hk)
  (try clear hi)
  (try clear ho0)
  obtain ⟨Ao21, co21, eo21⟩ := Kd.N_slice HO448.out
  (first | subst eo21 | (injection eo21 with f1_ f2_ f3_; have f4_ := f1_.symm; have f5_ := f3_.symm; clear f1_ f2_ f3_; subst f4_; subst f5_))
  obtain ⟨Ao22, co22, eo22⟩ := Kd.N_slice HO461.out
  (first | subst eo22 | (injection eo22 with f1_ f2_ f3_; have f4_ := f1_.symm; have f5_ := f3_.symm; clear f1_ f2_ f3_; subst f4_; subst f5_))
  refine hK.out _ _ ⟨(blk_cell BK445.out 0).trans rfl, (blk_cell BK445.out 1).trans rfl, (blk_cell BK445.out 2).trans rfl, (blk_cell BK445.out 3).trans rfl, (blk_cell BK445.out 4).trans rfl⟩ (fun hHeld => ?_)
  clear hK K
  refine norm_ (a' := ?_) ?_ ?_
  rotate_left
  ·show Act.put _ (some 39) _ = _
   simp only [Act.put, zT, z0, zS, i64_w, i32_w]
   rfl
  refine one_ (i := 4) (N := some 40) #[true, true, true, true, true, false, false] rfl rfl (by kernel_rfl) (by decide) (fun K hK => ?_)
  refine Kd.N_lit_step (Kd.slice 25 k25) _ 22 ?hg (N' := 40) ?hd (xs := ([t446, t459] : List (List (S25)))) (inner := [.slice Ao21 t446.length co21, .slice Ao22 t459.length co22]) (ok := (fun k_ => (w.heap.size ≤ k_) ∧ k_ ≠ gb445 ∧ k_ ≠ g)) (okp := (fun k_ => (w.heap.size ≤ k_) ∧ k_ ≠ gb445 ∧ k_ ≠ g)) ?hr ?hp (fun _ hk => hk) ((show ∀ k_, w20.heap.size ≤ k_ → (fun k_ => (w.heap.size ≤ k_) ∧ k_ ≠ gb445 ∧ k_ ≠ g) k_ from fun k_ hk => ⟨(Nat.le_trans (keep_size (w := w) (g := g) (row := none) (kK HK)) hk), Kd.freshB (g := gb445) (o := .cells #[.int .i64 6, .string (⟨#[]⟩ : ByteArray), .string (⟨#[]⟩ : ByteArray), .string t440, .slice none 0 0] 25 (0, 0)) (kB BK445) k_ hk, IsS83.fresh yI k_ hk⟩) _ (Nat.le_refl _)) (Below.refl _ _) (Nat.le_refl _) (by simp) ?_; (case hd => rfl); (case hg => rfl); (case hr => first | (go_simp; done) | (go_simp; rfl)); (case hp => exact (Reps.one (show Kd.FK (Kd.slice 25 k25) _ _ t446 [.slice Ao21 t446.length co21] from (Kd.FK_slice_mk (Kd.N_reads' (Kd.N_mono (ok' := (fun k_ => (w.heap.size ≤ k_) ∧ k_ ≠ gb445 ∧ k_ ≠ g)) (HO448.out) (fun k_ hk => ⟨hk.1.1, ⟨hk.1.2.1, hk.1.2.2⟩⟩))).2.1 (Kd.N_F (Kd.N_mono (ok' := (fun k_ => (w.heap.size ≤ k_) ∧ k_ ≠ gb445 ∧ k_ ≠ g)) (HO448.out) (fun k_ hk => ⟨hk.1.1, ⟨hk.1.2.1, hk.1.2.2⟩⟩))))) (Reps.one (show Kd.FK (Kd.slice 25 k25) _ _ t459 [.slice Ao22 t459.length co22] from (Kd.FK_slice_mk (Kd.N_reads' (Kd.N_mono (ok' := (fun k_ => (w.heap.size ≤ k_) ∧ k_ ≠ gb445 ∧ k_ ≠ g)) (HO461.out) (fun k_ hk => ⟨hk.1, ⟨hk.2.2.1, hk.2.2.2⟩⟩))).2.1 (Kd.N_F (Kd.N_mono (ok' := (fun k_ => (w.heap.size ≤ k_) ∧ k_ ≠ gb445 ∧ k_ ≠ g)) (HO461.out) (fun k_ hk => ⟨hk.1, ⟨hk.2.2.1, hk.2.2.2⟩⟩))))) (Reps.none _ _))))
  intro v466 w23 ho24 hb hg_ hnew_
  clear hg_ hnew_
  (first | rw [← Ny465.out] at ho24 | (simp only [Int.reduceToNat] at ho24; rw [← Ny465.out] at ho24))
  have n0_ := am (Kd.N_lower ho24 (keep_size (w := w) (g := g) (row := none) (kK HK)))
  have n1_ := am (IsS83.below yI hb)
  have n2_ := am (bB (kB BK445) hb)
  have n3_ := am (KeepBut.trans (kK HK) (KeepBut.of_below hb g none) (.inl rfl))
  have n4_ := am (below_step (kLI HB) hb)
  clear HI0
  clear BK445
  clear HK
  clear HB
  clear HO448
  clear HO461
  have HO467 := n0_
  have HI0 := n1_
  have BK445 := n2_
  have HK := n3_
  have HB := n4_
  clear n0_ n1_ n2_ n3_ n4_
  clear hb ho24
  obtain ⟨Ao25, co25, eo25⟩ := Kd.N_slice HO467.out
  (first | subst eo25 | (injection eo25 with f1_ f2_ f3_; have f4_ := f1_.symm; have f5_ := f3_.symm; clear f1_ f2_ f3_; subst f4_; subst f5_))
  refine hK.out _ _ ⟨(blk_cell BK445.out 0).trans rfl, (blk_cell BK445.out 1).trans rfl, (blk_cell BK445.out 2).trans rfl, (blk_cell BK445.out 3).trans rfl, (blk_cell BK445.out 4).trans rfl⟩ (fun hHeld => ?_)
  clear hK K
  refine norm_ (a' := ?_) ?_ ?_
  rotate_left
  ·show Act.put _ (some 40) _ = _
   simp only [Act.put, zT, z0, zS, i64_w, i32_w]
   rfl
  refine one_ (i := 5) (N := some 41) #[true, true, true, true, true, true, false] rfl rfl (by kernel_rfl) (by decide) (fun K hK => ?_)
  refine goes_ Try.func32 (by kernel_rfl) rfl #[.agg #[.int .i64 6, .string (⟨#[]⟩ : ByteArray), .string (⟨#[]⟩ : ByteArray), .string t440, .slice none 0 0], .slice Ao25 y465.length co25] (by rfl) rfl rfl yA ?_
  refine (tree_Node.calls _ _ _ _ _ (fun k_ => False) _ _ _ (fun k_ => ((w.heap.size ≤ k_) ∧ (k_ ≠ gb445 ∧ k_ ≠ g))) _ _ _ _ _ ?side1 ?side2 A8.out).mono ?_
  (case side1 => exact Kd.V_nil _ _ _ _ _)
  (case side2 => exact Kd.N_V (HO467.out))
  rintro e w26 ⟨v469, rfl, ho0, hb⟩
  refine ⟨_, rfl, ?_⟩
  replace HO467 := am (Kd.N_elder' (nB HO467) (Kd.N_base ho0) hb)
  have HO470 := am (Kd.N_lower (Kd.N_mono (ok' := fun k_ => (w.heap.size ≤ k_) ∧ k_ ≠ gb445 ∧ k_ ≠ g) ho0 (fun k_ hk_ => ⟨Or.elim hk_ (fun hs_ => Or.elim hs_ (fun hs_ => (hs_).elim) (fun hs_ => hs_.1)) (fun hn_ => (Nat.le_trans (keep_size (w := w) (g := g) (row := none) (kK HK)) hn_)), Or.elim hk_ (fun hs_ => Or.elim hs_ (fun hs_ => (hs_).elim) (fun hs_ => hs_.2.1)) (fun hn_ => (Kd.freshB (g := gb445) (o := .cells #[.int .i64 6, .string (⟨#[]⟩ : ByteArray), .string (⟨#[]⟩ : ByteArray), .string t440, .slice none 0 0] 25 (0, 0)) (kB BK445) k_ hn_)), Or.elim hk_ (fun hs_ => Or.elim hs_ (fun hs_ => (hs_).elim) (fun hs_ => hs_.2.2)) (fun hn_ => (IsS83.fresh yI k_ hn_))⟩)) (keep_size (w := w) (g := g) (row := none) (kK HK)))
  replace BK445 := am (bB (kB BK445) hb)
  replace HK := am (KeepBut.trans (kK HK) (KeepBut.of_below hb g none) (.inl rfl))
  replace HB := am (below_step (kLI HB) hb)
  replace HI0 := am (IsS83.below yI hb)
  (try clear hb)
  (try clear hb2)
  (try clear hk)
  (try clear hi)
  (try clear ho0)
  refine hK.out _ _ ⟨(blk_cell BK445.out 0).trans rfl, (blk_cell BK445.out 1).trans rfl, (blk_cell BK445.out 2).trans rfl, (blk_cell BK445.out 3).trans rfl, (blk_cell BK445.out 4).trans rfl⟩ (fun hHeld => ?_)
  clear hK K
  refine norm_ (a' := ?_) ?_ ?_
  rotate_left
  ·show Act.put _ (some 41) _ = _
   simp only [Act.put, zT, z0, zS, i64_w, i32_w]
   rfl
  refine pure_ (i := 6) (N := some 2) (v := ?_) (a' := ?_) #[true, true, true, true, true, true, true] rfl rfl (by kernel_rfl) (fun _ _ _ h => h) (Or.inl ⟨by rfl, ?_⟩) ?_ ?_
  rotate_left
  ·intro w'
   go_simp
   with_reducible rfl
  rotate_left
  ·simp only [Act.put, zT, z0, zS, i64_w, i32_w]
   rfl
  refine done_ (by kernel_rfl) ?_
  try go_wp2
  go_ret
  exact ⟨_, yE, fun e_ => absurd e_ (tree_Node_ne (by assumption)), Kd.N_mono (nB HO470) (fun _ hk => hk.1), yI, (kLI HB), (kK HK)⟩
 ·replace c6 := Bool.eq_false_iff.mpr c6
  subst c6
  rw [if_neg (show ¬ (false = true) by decide)] at H
  simp only [Option.some.injEq, Prod.mk.injEq] at H
  obtain ⟨rfl, rfl, rfl, rfl⟩ := H
  go_enter Try.func95, Try.ntmps95
  go_wp2_with (first | ((with_reducible refine gC 67 rfl ?_); refine gL (some 6) Try.func67 #[.pointer (some ⟨g, 0, none⟩), .int .i64 0] ?_; (with_reducible refine (parse_parser_look.calls _ _ _ _ _ _ _ _ _ _ _ _ w0 _ ?side1 ?side2 A2.out).mono ?_); (case side1 => exact yI); (case side2 => exact (kLI HB)); rintro e w27 ⟨rfl, hi, hb, hk⟩; refine ⟨_, rfl, ?_⟩; replace HK := am (KeepBut.trans (kK HK) hk (.inl rfl)); replace HB := am hb; replace HI0 := am hi; (try clear hi hb hk)) | ((with_reducible refine gD 3 rfl ?_); refine bx 3 #[.int .i64 0, .string (⟨#[]⟩ : ByteArray), .string (⟨#[]⟩ : ByteArray), .string (⟨#[]⟩ : ByteArray), .slice none 0 0] 25 ?_; intro gb445 hg w28 hbox hb; replace HB := am (below_step (kLI HB) hb); have BK445 := am hbox; have GW445 := am ((by rw [hg]; exact (keep_size (w := w) (g := g) (row := none) (kK HK)) : w.heap.size ≤ gb445)); have GE445 := am ((Nat.le_trans HW0.out (by rw [hg]; exact (keep_size (w := w) (g := g) (row := none) (kK HK)) : w.heap.size ≤ gb445) : w0.heap.size ≤ gb445)); replace HK := am (KeepBut.trans (kK HK) (KeepBut.of_below hb g none) (.inl rfl)); have NB0_445 := am ((by rw [hg]; exact Nat.ne_of_lt (IsS83.lt (show IsS83 w0 _ g s0_0 t442 t443 t444 from yI)) : g ≠ gb445)); have NB445_0 := am ((by rw [hg]; exact Nat.ne_of_gt (IsS83.lt (show IsS83 w0 _ g s0_0 t442 t443 t444 from yI)) : gb445 ≠ g)); replace HI0 := am (IsS83.below yI hb); clear hb hbox hg; have hnb29 := NB445_0.out; have hnc29 := NB0_445.out; obtain ⟨hcz30_0, hcz30_1, hcz30_2, hcz30_3, hcz30_4, hfz30_0, hfz30_1, hfz30_2, hfz30_3, hfz30_4⟩ := bk5 BK445.out; obtain ⟨ASz31_0, cSz31_0, HSz31_0, hcz31_0, hcz31_1, hcz31_2, hcz31_3, hfz31_1, hfz31_2, hfz31_3⟩ := IsS83.look HI0.out) | ((with_reducible refine gC 93 rfl ?_); refine gL (some 17) Try.func93 #[.pointer (some ⟨g, 0, none⟩)] ?_; (with_reducible refine (parse_parser_expr.calls _ _ _ _ _ _ _ _ _ w0 _ ?side1 ?side2 A3.out).mono ?_); (case side1 => exact yI); (case side2 => exact (kLI HB)); rintro e w32 ⟨v447, rfl, ho0, hi, hb, hk⟩; refine ⟨_, rfl, ?_⟩; have HO448 := am (Kd.N_lower (Kd.N_mono (ok' := fun k_ => (w.heap.size ≤ k_) ∧ k_ ≠ gb445 ∧ k_ ≠ g) ho0 (fun k_ hk_ => ⟨(Nat.le_trans (keep_size (w := w) (g := g) (row := none) (kK HK)) hk_), (fB BK445 k_ hk_), (IsS83.fresh yI k_ hk_)⟩)) (keep_size (w := w) (g := g) (row := none) (kK HK))); replace BK445 := am (KeepBut.blk hk (g' := gb445) (o := .cells #[.int .i64 6, .string (⟨#[]⟩ : ByteArray), .string (⟨#[]⟩ : ByteArray), .string t440, .slice none 0 0] 25 (0, 0)) (kM BK445) NB445_0.out (by simp)); replace HK := am (KeepBut.trans (kK HK) hk (.inl rfl)); replace HB := am hb; replace HI0 := am hi; (try clear ho0 hi hb hk)) | ((with_reducible refine gC 94 rfl ?_); refine gL (some 19) Try.func94 #[.pointer (some ⟨g, 0, none⟩), .string (⟨#[93]⟩ : ByteArray)] ?_; (with_reducible refine (parse_parser_mark.calls _ _ _ _ _ _ _ _ _ w0 _ ?side1 ?side2 A4.out).mono ?_); (case side1 => exact yI); (case side2 => exact (kLI HB)); rintro e w33 ⟨rfl, hi, hb, hk⟩; refine ⟨_, rfl, ?_⟩; replace BK445 := am (KeepBut.blk hk (kB BK445) NB445_0.out (by simp)); replace HO448 := am (Kd.N_mono (Kd.N_keep (Kd.N_mono (ok := fun k_ => (((w.heap.size ≤ k_)) ∧ (k_ ≠ gb445 ∧ k_ ≠ g))) (nB HO448) (fun k_ hk_ => (⟨hk_, hk_.2.2⟩ : _ ∧ k_ ≠ g))) hk (fun _ h => h.2)) (fun _ h => h.1)); replace HK := am (KeepBut.trans (kK HK) hk (.inl rfl)); replace HB := am hb; replace HI0 := am hi; (try clear hi hb hk)) | ((with_reducible refine gC 92 rfl ?_); refine gL (some 21) Try.func92 #[.pointer (some ⟨g, 0, none⟩), .int .i64 0, .string (⟨#[58]⟩ : ByteArray)] ?_; (with_reducible refine (parse_parser_is.calls _ _ _ _ _ _ _ _ _ _ _ w0 _ ?side1 ?side2 A5.out).mono ?_); (case side1 => exact yI); (case side2 => exact (kLI HB)); rintro e w34 ⟨rfl, hi, hb, hk⟩; refine ⟨_, rfl, ?_⟩; replace BK445 := am (KeepBut.blk hk (kB BK445) NB445_0.out (by simp)); replace HO448 := am (Kd.N_mono (Kd.N_keep (Kd.N_mono (ok := fun k_ => (((w.heap.size ≤ k_)) ∧ (k_ ≠ gb445 ∧ k_ ≠ g))) (nB HO448) (fun k_ hk_ => (⟨hk_, hk_.2.2⟩ : _ ∧ k_ ≠ g))) hk (fun _ h => h.2)) (fun _ h => h.1)); replace HK := am (KeepBut.trans (kK HK) hk (.inl rfl)); replace HB := am hb; replace HI0 := am hi; (try clear hi hb hk); obtain ⟨ASz35_0, cSz35_0, HSz35_0, hcz35_0, hcz35_1, hcz35_2, hcz35_3, hfz35_1, hfz35_2, hfz35_3⟩ := IsS83.look HI0.out))
  go_ret
  exact ⟨_, yE, fun _ => rfl, yZ, yI, (kLI HB), (kK HK)⟩
end Go.Proofs.Ytdelccahgchadaa.P
end
section
namespace Go.Proofs.Ytdelccahgchadaa.P
open Go.RowKit Go.Proofs.YtdelccahgchadaaW.PrintWords Go.Proofs.YtdelccahgchadaaW.PrintLast Go.Proofs.YtdelccahgchadaaW.PrintMore
attribute [local go_sem] max2_int min2_int max_two min_two max_three min_three max_four min_four   
set_option linter.unusedVariables false
set_option linter.unusedSimpArgs false
theorem N_some {α : Type} {d : Kd α} {e : Nat} {w : World} {base : Nat} {ok : Nat → Prop} {v : Value} {xs : List α} (h : Kd.N d e w base ok v xs) (hne : xs ≠ []) : ∃ a c, v = .slice (some a) xs.length c := by
 obtain ⟨_, rows, hl, hR, _⟩ := h
 obtain ⟨inner, ho⟩ := Kd.R_own hR
 rcases ho.2 with ⟨_, hn⟩ | ⟨g, cap, cur, hv, _⟩
 ·exact absurd (List.length_eq_zero_iff.1 (hl ▸ hn)) hne
 ·exact ⟨_, _, by rw [hv, hl]⟩
mutual
def parse_parser_line.j0 : Nat → Bool → List (S71) → Int → Int → Bool → Int → ByteArray → Int → Option ((List (S25)) × Int × Int × Bool)
 | 0, _, _, _, _, _, _, _, _ => none
 | k + 1, x8, x1000, x1001, x1002, x1003, x478000, x478001, x478002 => if x8 = true then ((parse_parser_expr.f x1000 (wrap64 (x1001 + 2)) x1002 x1003).bind fun bt482 => ((tree_Node.f k 5 (⟨#[]⟩ : ByteArray) (⟨#[]⟩ : ByteArray) x478001 ([] : List ByteArray) (([bt482.1] : List (List (S25))))).bind fun t491 => (some (t491, bt482.2.1, bt482.2.2.1, bt482.2.2.2)))) else (if x478000 = 3 then ((parse_parser_is.f x1000 x1001 x1002 x1003 1 (⟨#[58]⟩ : ByteArray)).bind fun bt494 => (parse_parser_line.j1 k bt494.1 x1000 bt494.2.1 bt494.2.2.1 bt494.2.2.2 x478000 x478001 x478002)) else (parse_parser_line.j1 k false x1000 x1001 x1002 x1003 x478000 x478001 x478002))
def parse_parser_line.j1 : Nat → Bool → List (S71) → Int → Int → Bool → Int → ByteArray → Int → Option ((List (S25)) × Int × Int × Bool)
 | 0, _, _, _, _, _, _, _, _ => none
 | k + 1, x30, x1000, x1001, x1002, x1003, x478000, x478001, x478002 => if x30 = true then ((parse_parser_mark.f x1000 (wrap64 (x1001 + 2)) x1002 x1003 (⟨#[123]⟩ : ByteArray)).bind fun bt498 => ((parse_parser_expr.f x1000 bt498.1 bt498.2.1 bt498.2.2).bind fun bt501 => ((parse_parser_mark.f x1000 bt501.2.1 bt501.2.2.1 bt501.2.2.2 (⟨#[125]⟩ : ByteArray)).bind fun bt507 => ((tree_Node.f k 7 (⟨#[]⟩ : ByteArray) (⟨#[]⟩ : ByteArray) x478001 ([] : List ByteArray) (([bt501.1] : List (List (S25))))).bind fun t513 => (some (t513, bt507.1, bt507.2.1, bt507.2.2)))))) else (if x478000 = 2 then ((parse_parser_is.f x1000 x1001 x1002 x1003 1 (⟨#[91]⟩ : ByteArray)).bind fun bt516 => (parse_parser_line.j2 k bt516.1 x1000 bt516.2.1 bt516.2.2.1 bt516.2.2.2)) else (parse_parser_line.j2 k false x1000 x1001 x1002 x1003))
def parse_parser_line.j2 : Nat → Bool → List (S71) → Int → Int → Bool → Option ((List (S25)) × Int × Int × Bool)
 | 0, _, _, _, _, _ => none
 | k + 1, x57, x1000, x1001, x1002, x1003 => if x57 = true then ((parse_parser_amend.f k x1000 x1001 x1002 x1003).bind fun bt520 => (if (!(bt520.1).isEmpty) = true then (some (bt520.1, bt520.2.1, bt520.2.2.1, bt520.2.2.2)) else ((parse_parser_expr.f x1000 bt520.2.1 bt520.2.2.1 bt520.2.2.2).bind fun bt526 => (some (bt526.1, bt526.2.1, bt526.2.2.1, bt526.2.2.2))))) else ((parse_parser_expr.f x1000 x1001 x1002 x1003).bind fun bt532 => (some (bt532.1, bt532.2.1, bt532.2.2.1, bt532.2.2.2)))
end
def parse_parser_line.f (k : Nat) (s0_0 : List (S71)) (s0_1 : Int) (s0_2 : Int) (s0_3 : Bool) : Option ((List (S25)) × Int × Int × Bool) := (parse_parser_look.f s0_0 s0_1 s0_2 s0_3 0).bind fun bt471 => (if bt471.1 = 2 then ((parse_parser_is.f s0_0 bt471.2.2.2.1 bt471.2.2.2.2.1 bt471.2.2.2.2.2 1 (⟨#[58]⟩ : ByteArray)).bind fun bt478 => (parse_parser_line.j0 k bt478.1 s0_0 bt478.2.1 bt478.2.2.1 bt478.2.2.2 bt471.1 bt471.2.1 bt471.2.2.1)) else (parse_parser_line.j0 k false s0_0 bt471.2.2.2.1 bt471.2.2.2.2.1 bt471.2.2.2.2.2 bt471.1 bt471.2.1 bt471.2.2.1))
theorem parse_parser_line.mono_l : ∀ k, (∀ y0 y1 y2 y3 y4 y5 y6 y7, LeO (parse_parser_line.j0 k y0 y1 y2 y3 y4 y5 y6 y7) (parse_parser_line.j0 (k + 1) y0 y1 y2 y3 y4 y5 y6 y7)) ∧ (∀ y0 y1 y2 y3 y4 y5 y6 y7, LeO (parse_parser_line.j1 k y0 y1 y2 y3 y4 y5 y6 y7) (parse_parser_line.j1 (k + 1) y0 y1 y2 y3 y4 y5 y6 y7)) ∧ (∀ y0 y1 y2 y3 y4, LeO (parse_parser_line.j2 k y0 y1 y2 y3 y4) (parse_parser_line.j2 (k + 1) y0 y1 y2 y3 y4))
 | 0 => ⟨fun _ _ _ _ _ _ _ _ r h => by simp [parse_parser_line.j0] at h, fun _ _ _ _ _ _ _ _ r h => by simp [parse_parser_line.j1] at h, fun _ _ _ _ _ r h => by simp [parse_parser_line.j2] at h⟩
 | k + 1 => by
  obtain ⟨ih0, ih1, ih2⟩ := parse_parser_line.mono_l k
  refine ⟨?_, ?_, ?_⟩
  ·intro y0 y1 y2 y3 y4 y5 y6 y7
   unfold parse_parser_line.j0
   with_reducible repeat' first
   | exact ih0 _ _ _ _ _ _ _ _
   | exact ih1 _ _ _ _ _ _ _ _
   | exact ih2 _ _ _ _ _
   | exact parse_parser_amend.mono _ _ _ _ _
   | exact tree_Node.mono _ _ _ _ _ _ _
   | exact LeO.refl _
   | exact LeO.none _
   | refine LeO.ite ?_ ?_
   | refine LeO.bind ?_ (fun _ => ?_)
  ·intro y0 y1 y2 y3 y4 y5 y6 y7
   unfold parse_parser_line.j1
   with_reducible repeat' first
   | exact ih0 _ _ _ _ _ _ _ _
   | exact ih1 _ _ _ _ _ _ _ _
   | exact ih2 _ _ _ _ _
   | exact parse_parser_amend.mono _ _ _ _ _
   | exact tree_Node.mono _ _ _ _ _ _ _
   | exact LeO.refl _
   | exact LeO.none _
   | refine LeO.ite ?_ ?_
   | refine LeO.bind ?_ (fun _ => ?_)
  ·intro y0 y1 y2 y3 y4
   unfold parse_parser_line.j2
   with_reducible repeat' first
   | exact ih0 _ _ _ _ _ _ _ _
   | exact ih1 _ _ _ _ _ _ _ _
   | exact ih2 _ _ _ _ _
   | exact parse_parser_amend.mono _ _ _ _ _
   | exact tree_Node.mono _ _ _ _ _ _ _
   | exact LeO.refl _
   | exact LeO.none _
   | refine LeO.ite ?_ ?_
   | refine LeO.bind ?_ (fun _ => ?_)
theorem parse_parser_line.mono : ∀ a0 a1 a2 a3 k, LeO (parse_parser_line.f k a0 a1 a2 a3) (parse_parser_line.f (k + 1) a0 a1 a2 a3) := by
 intro a0 a1 a2 a3 k
 obtain ⟨ih0, ih1, ih2⟩ := parse_parser_line.mono_l k
 unfold parse_parser_line.f
 with_reducible repeat' first
   | exact ih0 _ _ _ _ _ _ _ _
   | exact ih1 _ _ _ _ _ _ _ _
   | exact ih2 _ _ _ _ _
   | exact parse_parser_amend.mono _ _ _ _ _
   | exact tree_Node.mono _ _ _ _ _ _ _
   | exact LeO.refl _
   | exact LeO.none _
   | refine LeO.ite ?_ ?_
   | refine LeO.bind ?_ (fun _ => ?_)
def parse_parser_line.T4 : Bool × List (List Nat × List Nat) := (true, [([], []), ([0], [0]), ([1], [1]), ([], []), ([3], [3]), ([4], [4]), ([2, 5, 4], [2, 5]), ([6, 6, 0, 1, 2, 3, 4, 5, 6], [6])])
def parse_parser_line.B4 : List Nat := [0, 1, 3, 0, 8, 24, 63, 127]
theorem parse_parser_line.tab4 : rtab .any (opsOf Try.f66 4) = parse_parser_line.T4 := by kernel_rfl
theorem parse_parser_line.bits4 : waitsOk parse_parser_line.T4.2 parse_parser_line.B4 = true := by kernel_rfl
set_option maxHeartbeats 8000000 in
set_option maxRecDepth 100000 in
theorem parse_parser_line.calls (k : Nat) (g : Nat) (s0_0 : List (S71)) (s0_1 : Int) (s0_2 : Int) (s0_3 : Bool) (r1 : List (S25)) (r2 : Int) (r3 : Int) (r4 : Bool) (w0 w : World) (hI : IsS83 w0 w g s0_0 s0_1 s0_2 s0_3) (hB : Below w0.heap.size w0 w) (h : parse_parser_line.f k s0_0 s0_1 s0_2 s0_3 = some (r1, r2, r3, r4)) :
  Calls Try.prog 66 #[.pointer (some ⟨g, 0, none⟩)] w fun e w' => ∃ v0_ : Value, e = .returned (v0_) ∧ Kd.N k25 25 w' w.heap.size (fun k_ => (w.heap.size ≤ k_)) v0_ r1 ∧ IsS83 w0 w' g s0_0 r2 r3 r4 ∧ Below w0.heap.size w0 w' ∧ KeepBut w w' g none := by
 have hu71 := Try.underlying71
 have hu25 := Try.underlying25
 have HI0 := am hI
 have HK := am (KeepBut.refl w g none)
 have HL := am hB.size
 clear hI
 have HW0 := am hB.size
 have HB := am hB
 clear hB
 unfold parse_parser_line.f at h
 have H := h
 clear h
 obtain ⟨⟨t471, t472, t473, t474, t475, t476⟩, A2, H⟩ := bO H
 try dsimp only at H
 have HC3 := am H
 clear H
 go_enter Try.func66, Try.ntmps66
 go_upto_region 2 with (first | ((with_reducible refine gC 67 rfl ?_); refine gL (some 7) Try.func67 #[.pointer (some ⟨g, 0, none⟩), .int .i64 0] ?_; (with_reducible refine (parse_parser_look.calls _ _ _ _ _ _ _ _ _ _ _ _ w0 _ ?side1 ?side2 A2.out).mono ?_); (case side1 => exact yI); (case side2 => exact (kLI HB)); rintro e w4 ⟨rfl, hi, hb, hk⟩; refine ⟨_, rfl, ?_⟩; replace HK := am (KeepBut.trans (kK HK) hk (.inl rfl)); replace HB := am hb; replace HI0 := am hi; (try clear hi hb hk)) | ((with_reducible refine gD 3 rfl ?_); refine bx 3 #[.int .i64 0, .string (⟨#[]⟩ : ByteArray), .int .i64 0] 71 ?_; intro gb477 hg w5 hbox hb; replace HB := am (below_step (kLI HB) hb); have BK477 := am hbox; have GW477 := am ((by rw [hg]; exact (keep_size (w := w) (g := g) (row := none) (kK HK)) : w.heap.size ≤ gb477)); have GE477 := am ((Nat.le_trans HW0.out (by rw [hg]; exact (keep_size (w := w) (g := g) (row := none) (kK HK)) : w.heap.size ≤ gb477) : w0.heap.size ≤ gb477)); replace HK := am (KeepBut.trans (kK HK) (KeepBut.of_below hb g none) (.inl rfl)); have NB0_477 := am ((by rw [hg]; exact Nat.ne_of_lt (IsS83.lt (show IsS83 w0 _ g s0_0 t474 t475 t476 from yI)) : g ≠ gb477)); have NB477_0 := am ((by rw [hg]; exact Nat.ne_of_gt (IsS83.lt (show IsS83 w0 _ g s0_0 t474 t475 t476 from yI)) : gb477 ≠ g)); replace HI0 := am (IsS83.below yI hb); clear hb hbox hg; have hnb6 := NB477_0.out; have hnc6 := NB0_477.out; obtain ⟨hcz7_0, hcz7_1, hcz7_2, hfz7_0, hfz7_1, hfz7_2⟩ := bk3 BK477.out))
 (try simp only [Act.put, zT, z0, zS])
 go_cut [8] (fun v8 wc => ∃ (kq : Nat) (x8_2 : Bool) (x1001_2 : Int) (x1002_2 : Int) (x1003_2 : Bool), v8 = .bool x8_2 ∧ Aside0 (parse_parser_line.j0 kq x8_2 s0_0 x1001_2 x1002_2 x1003_2 t471 t472 t473 = some (r1, r2, r3, r4)) ∧ Aside0 (kq ≤ k) ∧ Aside0 (wc.heap[gb477]? = some (.cells #[.int .i64 t471, .string t472, .int .i64 t473] 71 (0, 0))) ∧ Aside0 (IsS83 w0 wc g s0_0 x1001_2 x1002_2 x1003_2) ∧ Aside0 (KeepBut w wc g none) ∧ Aside0 (Below w0.heap.size w0 wc))
 case first =>
  have H := HC3.out
  clear HC3
  by_cases c8 : t471 = 2
  ·rw [if_pos c8] at H
   have c8b0 := eT c8
   have c8b1 := nF c8
   clear c8
   (first | rw [c8b0] | (simp only [i64_w, i32_w]; rw [c8b0]) | skip)
   obtain ⟨⟨t478, t479, t480, t481⟩, A9, H⟩ := bO H
   try dsimp only at H
   have H' := am H
   clear H
   have hnb10 := NB477_0.out
   have hnc10 := NB0_477.out
   obtain ⟨hcz11_0, hcz11_1, hcz11_2, hfz11_0, hfz11_1, hfz11_2⟩ := bk3 BK477.out
   go_wp2_with (go_at_call 92; (with_reducible refine (parse_parser_is.calls _ _ _ _ _ _ _ _ _ _ _ w0 _ ?side1 ?side2 A9.out).mono ?_); (case side1 => exact yI); (case side2 => exact (kLI HB)); rintro e w12 ⟨rfl, hi, hb, hk⟩; replace BK477 := am (KeepBut.blk hk (g' := gb477) (o := .cells #[.int .i64 t471, .string t472, .int .i64 t473] 71 (0, 0)) (kM BK477) NB477_0.out (by simp)); replace HK := am (KeepBut.trans (kK HK) hk (.inl rfl)); replace HB := am hb; replace HI0 := am hi; (try clear hi hb hk))
   go_meet
   case rel => exact ⟨_, (t478), (t479), (t480), (t481), yS, H', ⟨yO⟩, ⟨kB BK477⟩, ⟨yI⟩, ⟨(kK HK)⟩, ⟨(kLI HB)⟩⟩
  ·rw [if_neg c8] at H
   have c8b0 := eF c8
   have c8b1 := nT c8
   (first | rw [c8b0] | (simp only [i64_w, i32_w]; rw [c8b0]) | skip)
   have H' := am H
   clear H
   have hnb13 := NB477_0.out
   have hnc13 := NB0_477.out
   obtain ⟨hcz14_0, hcz14_1, hcz14_2, hfz14_0, hfz14_1, hfz14_2⟩ := bk3 BK477.out
   go_wp2
   go_meet
   case rel => exact ⟨_, (false), (t474), (t475), (t476), yS, H', ⟨yO⟩, ⟨kM BK477⟩, ⟨yI⟩, ⟨(kK HK)⟩, ⟨(kLI HB)⟩⟩
 case rest =>
  clear HC3
  try clear c1
  try clear p2
  try clear c6
  try clear c8
  try clear c8b0
  try clear c8b1
  try clear c10
  try clear c13
  try clear hcz11_0 hcz11_1 hcz11_2 hfz11_0 hfz11_1 hfz11_2
  try clear hcz14_0 hcz14_1 hcz14_2 hfz14_0 hfz14_1 hfz14_2
  try clear hcz7_0 hcz7_1 hcz7_2 hfz7_0 hfz7_1 hfz7_2
  obtain ⟨kq, x8_2, x1001_2, x1002_2, x1003_2, rfl, HA, HJ2, BK477, HI0, HK, HB⟩ := hcut
  cases kq with
  | zero => exact absurd HA.out (by simp [parse_parser_line.j0])
  | succ kj2 =>
   have H := HA.out
   clear HA
   simp only [parse_parser_line.j0] at H
   by_cases c15 : x8_2 = true
   ·subst c15
    rw [if_pos rfl] at H
    obtain ⟨⟨t482, t485, t486, t487⟩, A16, H⟩ := bO H
    try dsimp only at H
    obtain ⟨y488, hy488⟩ : ∃ y_ : List (List (S25)), y_ = (([t482] : List (List (S25)))) := ⟨_, rfl⟩
    replace H : ((tree_Node.f kj2 5 (⟨#[]⟩ : ByteArray) (⟨#[]⟩ : ByteArray) t472 ([] : List ByteArray) y488).bind fun t491 => (some (t491, t485, t486, t487))) = some (r1, r2, r3, r4) := by first | (rw [hy488]; with_reducible exact H) | (have H2_ := (Option.bind_some _ _).symm.trans H; rw [hy488]; with_reducible exact H2_) | (have H2_ := (Option.bind_some _ _).symm.trans H; with_reducible exact H2_) | with_reducible exact H | (rw [hy488]; exact H) | exact H
    have Ny488 := am hy488
    clear hy488
    obtain ⟨t491, A17, H⟩ := bO H
    try dsimp only at H
    simp only [Option.some.injEq, Prod.mk.injEq] at H
    obtain ⟨rfl, rfl, rfl, rfl⟩ := H
    obtain ⟨ASz18_0, cSz18_0, HSz18_0, hcz18_0, hcz18_1, hcz18_2, hcz18_3, hfz18_1, hfz18_2, hfz18_3⟩ := IsS83.look HI0.out
    try go_wp2
    have n0_ : Aside0 ((wc.setCell ⟨g, 1, none⟩ (.int .i64 (wrap64 (x1001_2 + 2)))).heap[gb477]? = some (.cells #[.int .i64 t471, .string t472, .int .i64 t473] 71 (0, 0))) := ⟨kM BK477⟩
    have n1_ : Aside0 (IsS83 w0 (wc.setCell ⟨g, 1, none⟩ (.int .i64 (wrap64 (x1001_2 + 2)))) g s0_0 (wrap64 (x1001_2 + 2)) x1002_2 x1003_2) := ⟨yI⟩
    have n2_ : Aside0 (KeepBut w (wc.setCell ⟨g, 1, none⟩ (.int .i64 (wrap64 (x1001_2 + 2)))) g none) := ⟨(kK HK)⟩
    have n3_ : Aside0 (Below w0.heap.size w0 (wc.setCell ⟨g, 1, none⟩ (.int .i64 (wrap64 (x1001_2 + 2))))) := ⟨(kLI HB)⟩
    (try clear BK477)
    (try clear HI0)
    (try clear HK)
    (try clear HB)
    generalize (wc.setCell ⟨g, 1, none⟩ (.int .i64 (wrap64 (x1001_2 + 2)))) = w19 at n0_ n1_ n2_ n3_ ⊢
    have BK477 := n0_
    have HI0 := n1_
    have HK := n2_
    have HB := n3_
    clear n0_ n1_ n2_ n3_
    replace BK477 := am (bD BK477.out)
    replace HI0 := am (IsS83.drew HI0.out)
    replace HK := am (keep_drew HK.out)
    replace HB := am (lD HB.out)
    refine start_ (n := 8) (S := fun w' => w'.cell? ⟨gb477, 0, none⟩ = some (.int .i64 t471) ∧ w'.cell? ⟨gb477, 1, none⟩ = some (.string t472) ∧ w'.cell? ⟨gb477, 2, none⟩ = some (.int .i64 t473)) (ds := []) #[false, false, false, false, false, false, false, false] (by kernel_rfl) rfl rfl ⟨(blk_cell BK477.out 0).trans rfl, (blk_cell BK477.out 1).trans rfl, (blk_cell BK477.out 2).trans rfl⟩ (fun hHeld => ?_); refine with_tabW parse_parser_line.tab4 parse_parser_line.bits4 (fun HT_ HW_ => ?_)
    generalize w19.drew = w20 at BK477 HI0 HK HB hHeld ⊢
    refine pure_ (i := 0) (N := some 23) (v := ?_) (a' := ?_) #[true, false, false, false, false, false, false, false] rfl rfl (any_of HT_.out (by kernel_rfl)) (fun _ _ _ h => h) (Or.inl ⟨by rfl, ?_⟩) ?_ ?_
    rotate_left
    ·intro w'
     go_simp
     with_reducible rfl
    rotate_left
    ·simp only [Act.put, zT, z0, zS, i64_w, i32_w]
     rfl
    refine pure_ (i := 3) (N := some 26) (v := ?_) (a' := ?_) #[true, false, false, true, false, false, false, false] rfl rfl (any_of HT_.out (by kernel_rfl)) (fun _ _ _ h => h) (Or.inl ⟨by rfl, ?_⟩) ?_ ?_
    rotate_left
    ·intro w'
     go_simp
     with_reducible rfl
    rotate_left
    ·simp only [Act.put, zT, z0, zS, i64_w, i32_w]
     rfl
    refine take_ (i := 1) (N := some 24) (v := ?_) (a' := ?_) #[true, true, false, true, false, false, false, false] rfl rfl (take_ofW HT_.out HW_.out (by kernel_rfl)) (fun _ _ _ h => h) (Or.inl ⟨by rfl, ?_⟩) hHeld ?_ ?_
    rotate_left
    ·rintro w' ⟨s0, s1, s2⟩
     go_simp
     with_reducible rfl
    rotate_left
    ·simp only [Act.put, zT, z0, zS, i64_w, i32_w]
     rfl
    refine pure_ (i := 2) (N := some 25) (v := ?_) (a' := ?_) #[true, true, true, true, false, false, false, false] rfl rfl (any_of HT_.out (by kernel_rfl)) (fun _ _ _ h => h) (Or.inl ⟨by rfl, ?_⟩) ?_ ?_
    rotate_left
    ·intro w'
     go_simp
     with_reducible rfl
    rotate_left
    ·simp only [Act.put, zT, z0, zS, i64_w, i32_w]
     rfl
    refine one_ (i := 4) (N := some 27) #[true, true, true, true, true, false, false, false] rfl rfl (one_of HT_.out (by kernel_rfl)) (by decide) (fun K hK => ?_)
    refine goes_ Try.func93 (by kernel_rfl) rfl #[.pointer (some ⟨g, 0, none⟩)] (by rfl) rfl rfl yA ?_
    with_reducible refine (parse_parser_expr.calls _ _ _ _ _ _ _ _ _ w0 _ ?side1 ?side2 A16.out).mono ?_
    (case side1 => exact yI)
    (case side2 => exact (kLI HB))
    rintro e w21 ⟨v483, rfl, ho0, hi, hb, hk⟩
    refine ⟨_, rfl, ?_⟩
    have HO484 := am (Kd.N_lower (Kd.N_mono (ok' := fun k_ => (w.heap.size ≤ k_) ∧ k_ ≠ gb477 ∧ k_ ≠ g) ho0 (fun k_ hk_ => ⟨(Nat.le_trans (keep_size (w := w) (g := g) (row := none) (kK HK)) hk_), (fB BK477 k_ hk_), (IsS83.fresh yI k_ hk_)⟩)) (keep_size (w := w) (g := g) (row := none) (kK HK)))
    replace BK477 := am (KeepBut.blk hk (kB BK477) NB477_0.out (by simp))
    replace HK := am (KeepBut.trans (kK HK) hk (.inl rfl))
    replace HB := am hb
    replace HI0 := am hi
    (try clear hb)
    (try clear hb2)
    (try clear hk)
    (try clear hi)
    (try clear ho0)
    obtain ⟨Ao22, co22, eo22⟩ := Kd.N_slice HO484.out
    (first | subst eo22 | (injection eo22 with f1_ f2_ f3_; have f4_ := f1_.symm; have f5_ := f3_.symm; clear f1_ f2_ f3_; subst f4_; subst f5_))
    refine hK.out _ _ ⟨(blk_cell BK477.out 0).trans rfl, (blk_cell BK477.out 1).trans rfl, (blk_cell BK477.out 2).trans rfl⟩ (fun hHeld => ?_)
    clear hK K
    refine norm_ (a' := ?_) ?_ ?_
    rotate_left
    ·show Act.put _ (some 27) _ = _
     simp only [Act.put, zT, z0, zS, i64_w, i32_w]
     rfl
    refine one_ (i := 5) (N := some 28) #[true, true, true, true, true, true, false, false] rfl rfl (one_of HT_.out (by kernel_rfl)) (by decide) (fun K hK => ?_)
    refine Kd.N_lit_step (Kd.slice 25 k25) _ 22 ?hg (N' := 28) ?hd (xs := ([t482] : List (List (S25)))) (inner := [.slice Ao22 t482.length co22]) (ok := (fun k_ => (w.heap.size ≤ k_) ∧ k_ ≠ gb477 ∧ k_ ≠ g)) (okp := (fun k_ => (w.heap.size ≤ k_) ∧ k_ ≠ gb477 ∧ k_ ≠ g)) ?hr ?hp (fun _ hk => hk) ((show ∀ k_, w21.heap.size ≤ k_ → (fun k_ => (w.heap.size ≤ k_) ∧ k_ ≠ gb477 ∧ k_ ≠ g) k_ from fun k_ hk => ⟨(Nat.le_trans (keep_size (w := w) (g := g) (row := none) (kK HK)) hk), Kd.freshB (g := gb477) (o := .cells #[.int .i64 t471, .string t472, .int .i64 t473] 71 (0, 0)) (kB BK477) k_ hk, IsS83.fresh yI k_ hk⟩) _ (Nat.le_refl _)) (Below.refl _ _) (Nat.le_refl _) (by simp) ?_; (case hd => rfl); (case hg => rfl); (case hr => first | (go_simp; done) | (go_simp; rfl)); (case hp => exact (Reps.one (show Kd.FK (Kd.slice 25 k25) _ _ t482 [.slice Ao22 t482.length co22] from (Kd.FK_slice_mk (Kd.N_reads' (Kd.N_mono (ok' := (fun k_ => (w.heap.size ≤ k_) ∧ k_ ≠ gb477 ∧ k_ ≠ g)) (HO484.out) (fun k_ hk => ⟨hk.1, ⟨hk.2.1, hk.2.2⟩⟩))).2.1 (Kd.N_F (Kd.N_mono (ok' := (fun k_ => (w.heap.size ≤ k_) ∧ k_ ≠ gb477 ∧ k_ ≠ g)) (HO484.out) (fun k_ hk => ⟨hk.1, ⟨hk.2.1, hk.2.2⟩⟩))))) (Reps.none _ _)))
    intro v489 w23 ho24 hb hg_ hnew_
    clear hg_ hnew_
    (first | rw [← Ny488.out] at ho24 | (simp only [Int.reduceToNat] at ho24; rw [← Ny488.out] at ho24))
    have n0_ := am (Kd.N_lower ho24 (keep_size (w := w) (g := g) (row := none) (kK HK)))
    have n1_ := am (bB (kB BK477) hb)
    have n2_ := am (IsS83.below yI hb)
    have n3_ := am (KeepBut.trans (kK HK) (KeepBut.of_below hb g none) (.inl rfl))
    have n4_ := am (below_step (kLI HB) hb)
    clear BK477
    clear HI0
    clear HK
    clear HB
    clear HO484
    have HO490 := n0_
    have BK477 := n1_
    have HI0 := n2_
    have HK := n3_
    have HB := n4_
    clear n0_ n1_ n2_ n3_ n4_
    clear hb ho24
    obtain ⟨Ao25, co25, eo25⟩ := Kd.N_slice HO490.out
    (first | subst eo25 | (injection eo25 with f1_ f2_ f3_; have f4_ := f1_.symm; have f5_ := f3_.symm; clear f1_ f2_ f3_; subst f4_; subst f5_))
    refine hK.out _ _ ⟨(blk_cell BK477.out 0).trans rfl, (blk_cell BK477.out 1).trans rfl, (blk_cell BK477.out 2).trans rfl⟩ (fun hHeld => ?_)
    clear hK K
    refine norm_ (a' := ?_) ?_ ?_
    rotate_left
    ·show Act.put _ (some 28) _ = _
     simp only [Act.put, zT, z0, zS, i64_w, i32_w]
     rfl
    refine one_ (i := 6) (N := some 29) #[true, true, true, true, true, true, true, false] rfl rfl (one_of HT_.out (by kernel_rfl)) (by decide) (fun K hK => ?_)
    refine goes_ Try.func32 (by kernel_rfl) rfl #[.agg #[.int .i64 5, .string (⟨#[]⟩ : ByteArray), .string (⟨#[]⟩ : ByteArray), .string t472, .slice none 0 0], .slice Ao25 y488.length co25] (by rfl) rfl rfl yA ?_
    refine (tree_Node.calls _ _ _ _ _ (fun k_ => False) _ _ _ (fun k_ => ((w.heap.size ≤ k_) ∧ (k_ ≠ gb477 ∧ k_ ≠ g))) _ _ _ _ _ ?side1 ?side2 A17.out).mono ?_
    (case side1 => exact Kd.V_nil _ _ _ _ _)
    (case side2 => exact Kd.N_V (HO490.out))
    rintro e w26 ⟨v492, rfl, ho0, hb⟩
    refine ⟨_, rfl, ?_⟩
    replace HO490 := am (Kd.N_elder' (nB HO490) (Kd.N_base ho0) hb)
    have HO493 := am (Kd.N_lower (Kd.N_mono (ok' := fun k_ => (w.heap.size ≤ k_) ∧ k_ ≠ gb477 ∧ k_ ≠ g) ho0 (fun k_ hk_ => ⟨Or.elim hk_ (fun hs_ => Or.elim hs_ (fun hs_ => (hs_).elim) (fun hs_ => hs_.1)) (fun hn_ => (Nat.le_trans (keep_size (w := w) (g := g) (row := none) (kK HK)) hn_)), Or.elim hk_ (fun hs_ => Or.elim hs_ (fun hs_ => (hs_).elim) (fun hs_ => hs_.2.1)) (fun hn_ => (Kd.freshB (g := gb477) (o := .cells #[.int .i64 t471, .string t472, .int .i64 t473] 71 (0, 0)) (kB BK477) k_ hn_)), Or.elim hk_ (fun hs_ => Or.elim hs_ (fun hs_ => (hs_).elim) (fun hs_ => hs_.2.2)) (fun hn_ => (IsS83.fresh yI k_ hn_))⟩)) (keep_size (w := w) (g := g) (row := none) (kK HK)))
    replace BK477 := am (bB (kB BK477) hb)
    replace HK := am (KeepBut.trans (kK HK) (KeepBut.of_below hb g none) (.inl rfl))
    replace HB := am (below_step (kLI HB) hb)
    replace HI0 := am (IsS83.below yI hb)
    (try clear hb)
    (try clear hb2)
    (try clear hk)
    (try clear hi)
    (try clear ho0)
    refine hK.out _ _ ⟨(blk_cell BK477.out 0).trans rfl, (blk_cell BK477.out 1).trans rfl, (blk_cell BK477.out 2).trans rfl⟩ (fun hHeld => ?_)
    clear hK K
    refine norm_ (a' := ?_) ?_ ?_
    rotate_left
    ·show Act.put _ (some 29) _ = _
     simp only [Act.put, zT, z0, zS, i64_w, i32_w]
     rfl
    refine pure_ (i := 7) (N := some 2) (v := ?_) (a' := ?_) #[true, true, true, true, true, true, true, true] rfl rfl (any_of HT_.out (by kernel_rfl)) (fun _ _ _ h => h) (Or.inl ⟨by rfl, ?_⟩) ?_ ?_
    rotate_left
    ·intro w'
     go_simp
     with_reducible rfl
    rotate_left
    ·simp only [Act.put, zT, z0, zS, i64_w, i32_w]
     rfl
    refine done_ (done_of HT_.out (by kernel_rfl)) ?_
    try go_wp2
    go_ret
    exact ⟨_, yE, Kd.N_mono (nB HO493) (fun _ hk => hk.1), yI, (kLI HB), (kK HK)⟩
   ·replace c15 := Bool.eq_false_iff.mpr c15
    subst c15
    rw [if_neg (show ¬ (false = true) by decide)] at H
    have HC27 := am H
    clear H
    go_upto_region 5 with (fail)
    go_cut [30] (fun v30 wc => ∃ (kq : Nat) (x30_26 : Bool) (x1001_26 : Int) (x1002_26 : Int) (x1003_26 : Bool), v30 = .bool x30_26 ∧ Aside0 (parse_parser_line.j1 kq x30_26 s0_0 x1001_26 x1002_26 x1003_26 t471 t472 t473 = some (r1, r2, r3, r4)) ∧ Aside0 (kq ≤ kj2) ∧ Aside0 (wc.heap[gb477]? = some (.cells #[.int .i64 t471, .string t472, .int .i64 t473] 71 (0, 0))) ∧ Aside0 (IsS83 w0 wc g s0_0 x1001_26 x1002_26 x1003_26) ∧ Aside0 (KeepBut w wc g none) ∧ Aside0 (Below w0.heap.size w0 wc))
    case first =>
     have H := HC27.out
     clear HC27
     by_cases c28 : t471 = 3
     ·rw [if_pos c28] at H
      have c28b0 := eT c28
      have c28b1 := nF c28
      clear c28
      (first | rw [c28b0] | (simp only [i64_w, i32_w]; rw [c28b0]) | skip)
      obtain ⟨⟨t494, t495, t496, t497⟩, A29, H⟩ := bO H
      try dsimp only at H
      have H' := am H
      clear H
      have hnb30 := NB477_0.out
      have hnc30 := NB0_477.out
      obtain ⟨hcz31_0, hcz31_1, hcz31_2, hfz31_0, hfz31_1, hfz31_2⟩ := bk3 BK477.out
      go_wp2_with (go_at_call 92; (with_reducible refine (parse_parser_is.calls _ _ _ _ _ _ _ _ _ _ _ w0 _ ?side1 ?side2 A29.out).mono ?_); (case side1 => exact yI); (case side2 => exact (kLI HB)); rintro e w32 ⟨rfl, hi, hb, hk⟩; replace BK477 := am (KeepBut.blk hk (kB BK477) NB477_0.out (by simp)); replace HK := am (KeepBut.trans (kK HK) hk (.inl rfl)); replace HB := am hb; replace HI0 := am hi; (try clear hi hb hk))
      go_meet
      case rel => exact ⟨_, (t494), (t495), (t496), (t497), yS, H', ⟨by have := HJ2.out; first | omega | exact Nat.le_refl _⟩, ⟨kB BK477⟩, ⟨yI⟩, ⟨(kK HK)⟩, ⟨(kLI HB)⟩⟩
     ·rw [if_neg c28] at H
      have c28b0 := eF c28
      have c28b1 := nT c28
      (first | rw [c28b0] | (simp only [i64_w, i32_w]; rw [c28b0]) | skip)
      have H' := am H
      clear H
      have hnb33 := NB477_0.out
      have hnc33 := NB0_477.out
      obtain ⟨hcz34_0, hcz34_1, hcz34_2, hfz34_0, hfz34_1, hfz34_2⟩ := bk3 BK477.out
      go_wp2
      go_meet
      case rel => exact ⟨_, (false), (x1001_2), (x1002_2), (x1003_2), yS, H', ⟨by have := HJ2.out; first | omega | exact Nat.le_refl _⟩, ⟨kB BK477⟩, ⟨yI⟩, ⟨(kK HK)⟩, ⟨(kLI HB)⟩⟩
    case rest =>
     clear HC27
     try clear c1
     try clear c2
     try clear p2
     try clear c3
     try clear c6
     try clear p6
     try clear c8
     try clear c8b0
     try clear c8b1
     try clear c9
     try clear c10
     try clear c13
     try clear c15
     try clear c28
     try clear c28b0
     try clear c28b1
     try clear c30
     try clear c32
     try clear c33
     try clear hcz11_0 hcz11_1 hcz11_2 hfz11_0 hfz11_1 hfz11_2
     try clear hcz14_0 hcz14_1 hcz14_2 hfz14_0 hfz14_1 hfz14_2
     try clear hcz18_0 hcz18_1 hcz18_2 hcz18_3 hfz18_1 hfz18_2 hfz18_3
     try clear hcz31_0 hcz31_1 hcz31_2 hfz31_0 hfz31_1 hfz31_2
     try clear hcz34_0 hcz34_1 hcz34_2 hfz34_0 hfz34_1 hfz34_2
     try clear hcz7_0 hcz7_1 hcz7_2 hfz7_0 hfz7_1 hfz7_2
     try clear p2
     obtain ⟨kq, x30_26, x1001_26, x1002_26, x1003_26, rfl, HA, HJ26, BK477, HI0, HK, HB⟩ := hcut
     cases kq with
     | zero => exact absurd HA.out (by simp [parse_parser_line.j1])
     | succ kj26 =>
      have H := HA.out
      clear HA
      simp only [parse_parser_line.j1] at H
      by_cases c35 : x30_26 = true
      ·subst c35
       rw [if_pos rfl] at H
       obtain ⟨⟨t498, t499, t500⟩, A36, H⟩ := bO H
       try dsimp only at H
       obtain ⟨⟨t501, t504, t505, t506⟩, A37, H⟩ := bO H
       try dsimp only at H
       obtain ⟨⟨t507, t508, t509⟩, A38, H⟩ := bO H
       try dsimp only at H
       obtain ⟨y510, hy510⟩ : ∃ y_ : List (List (S25)), y_ = (([t501] : List (List (S25)))) := ⟨_, rfl⟩
       replace H : ((tree_Node.f kj26 7 (⟨#[]⟩ : ByteArray) (⟨#[]⟩ : ByteArray) t472 ([] : List ByteArray) y510).bind fun t513 => (some (t513, t507, t508, t509))) = some (r1, r2, r3, r4) := by first | (rw [hy510]; with_reducible exact H) | (have H2_ := (Option.bind_some _ _).symm.trans H; rw [hy510]; with_reducible exact H2_) | (have H2_ := (Option.bind_some _ _).symm.trans H; with_reducible exact H2_) | with_reducible exact H | (rw [hy510]; exact H) | exact H
       have Ny510 := am hy510
       clear hy510
       obtain ⟨t513, A39, H⟩ := bO H
       try dsimp only at H
       simp only [Option.some.injEq, Prod.mk.injEq] at H
       obtain ⟨rfl, rfl, rfl, rfl⟩ := H
       obtain ⟨ASz40_0, cSz40_0, HSz40_0, hcz40_0, hcz40_1, hcz40_2, hcz40_3, hfz40_1, hfz40_2, hfz40_3⟩ := IsS83.look HI0.out
       go_wp2_with (first | ((with_reducible refine gC 94 rfl ?_); refine gL (some 46) Try.func94 #[.pointer (some ⟨g, 0, none⟩), .string (⟨#[123]⟩ : ByteArray)] ?_; (with_reducible refine (parse_parser_mark.calls _ _ _ _ _ _ _ _ _ w0 _ ?side1 ?side2 A36.out).mono ?_); (case side1 => exact yI); (case side2 => exact (kLI HB)); rintro e w41 ⟨rfl, hi, hb, hk⟩; refine ⟨_, rfl, ?_⟩; replace BK477 := am (KeepBut.blk hk (g' := gb477) (o := .cells #[.int .i64 t471, .string t472, .int .i64 t473] 71 (0, 0)) (kM BK477) NB477_0.out (by simp)); replace HK := am (KeepBut.trans (kK HK) hk (.inl rfl)); replace HB := am hb; replace HI0 := am hi; (try clear hi hb hk)) | ((with_reducible refine gC 93 rfl ?_); refine gL (some 48) Try.func93 #[.pointer (some ⟨g, 0, none⟩)] ?_; (with_reducible refine (parse_parser_expr.calls _ _ _ _ _ _ _ _ _ w0 _ ?side1 ?side2 A37.out).mono ?_); (case side1 => exact yI); (case side2 => exact (kLI HB)); rintro e w42 ⟨v502, rfl, ho0, hi, hb, hk⟩; refine ⟨_, rfl, ?_⟩; have HO503 := am (Kd.N_lower (Kd.N_mono (ok' := fun k_ => (w.heap.size ≤ k_) ∧ k_ ≠ gb477 ∧ k_ ≠ g) ho0 (fun k_ hk_ => ⟨(Nat.le_trans (keep_size (w := w) (g := g) (row := none) (kK HK)) hk_), (fB BK477 k_ hk_), (IsS83.fresh yI k_ hk_)⟩)) (keep_size (w := w) (g := g) (row := none) (kK HK))); replace BK477 := am (KeepBut.blk hk (kB BK477) NB477_0.out (by simp)); replace HK := am (KeepBut.trans (kK HK) hk (.inl rfl)); replace HB := am hb; replace HI0 := am hi; (try clear ho0 hi hb hk)) | ((with_reducible refine gC 94 rfl ?_); refine gL (some 50) Try.func94 #[.pointer (some ⟨g, 0, none⟩), .string (⟨#[125]⟩ : ByteArray)] ?_; (with_reducible refine (parse_parser_mark.calls _ _ _ _ _ _ _ _ _ w0 _ ?side1 ?side2 A38.out).mono ?_); (case side1 => exact yI); (case side2 => exact (kLI HB)); rintro e w43 ⟨rfl, hi, hb, hk⟩; refine ⟨_, rfl, ?_⟩; replace BK477 := am (KeepBut.blk hk (kB BK477) NB477_0.out (by simp)); replace HO503 := am (Kd.N_mono (Kd.N_keep (Kd.N_mono (ok := fun k_ => (((w.heap.size ≤ k_)) ∧ (k_ ≠ gb477 ∧ k_ ≠ g))) (nB HO503) (fun k_ hk_ => (⟨hk_, hk_.2.2⟩ : _ ∧ k_ ≠ g))) hk (fun _ h => h.2)) (fun _ h => h.1)); replace HK := am (KeepBut.trans (kK HK) hk (.inl rfl)); replace HB := am hb; replace HI0 := am hi; (try clear hi hb hk); have hnb44 := NB477_0.out; have hnc44 := NB0_477.out; obtain ⟨hcz45_0, hcz45_1, hcz45_2, hfz45_0, hfz45_1, hfz45_2⟩ := bk3 BK477.out; obtain ⟨Ao46, co46, eo46⟩ := Kd.N_slice HO503.out; subst eo46) | ((with_reducible refine gD 55 rfl ?_); refine Kd.N_lit (Kd.slice 25 k25) _ 22 ?hg (N' := 55) ?hd (xs := ([t501] : List (List (S25)))) (inner := [.slice Ao46 t501.length co46]) (ok := (fun k_ => (w.heap.size ≤ k_) ∧ k_ ≠ gb477 ∧ k_ ≠ g)) (okp := (fun k_ => (w.heap.size ≤ k_) ∧ k_ ≠ gb477 ∧ k_ ≠ g)) ?hr ?hp (fun _ hk => hk) ((show ∀ k_, w43.heap.size ≤ k_ → (fun k_ => (w.heap.size ≤ k_) ∧ k_ ≠ gb477 ∧ k_ ≠ g) k_ from fun k_ hk => ⟨(Nat.le_trans (keep_size (w := w) (g := g) (row := none) (kK HK)) hk), Kd.freshB (g := gb477) (o := .cells #[.int .i64 t471, .string t472, .int .i64 t473] 71 (0, 0)) (kB BK477) k_ hk, IsS83.fresh yI k_ hk⟩) _ (Nat.le_refl _)) (Below.refl _ _) (Nat.le_refl _) (by simp) ?_; (case hd => rfl); (case hg => rfl); (case hr => first | (go_simp; done) | (go_simp; rfl)); (case hp => exact (Reps.one (show Kd.FK (Kd.slice 25 k25) _ _ t501 [.slice Ao46 t501.length co46] from (Kd.FK_slice_mk (Kd.N_reads' (Kd.N_mono (ok' := (fun k_ => (w.heap.size ≤ k_) ∧ k_ ≠ gb477 ∧ k_ ≠ g)) (HO503.out) (fun k_ hk => ⟨hk.1, ⟨hk.2.1, hk.2.2⟩⟩))).2.1 (Kd.N_F (Kd.N_mono (ok' := (fun k_ => (w.heap.size ≤ k_) ∧ k_ ≠ gb477 ∧ k_ ≠ g)) (HO503.out) (fun k_ hk => ⟨hk.1, ⟨hk.2.1, hk.2.2⟩⟩))))) (Reps.none _ _))); intro v511 w47 ho48 hb hg_ hnew_; clear hg_ hnew_; (first | rw [← Ny510.out] at ho48 | (simp only [Int.reduceToNat] at ho48; rw [← Ny510.out] at ho48)); have n0_ := am (Kd.N_lower ho48 (keep_size (w := w) (g := g) (row := none) (kK HK))); have n1_ := am (bB (kB BK477) hb); have n2_ := am (IsS83.below yI hb); have n3_ := am (KeepBut.trans (kK HK) (KeepBut.of_below hb g none) (.inl rfl)); have n4_ := am (below_step (kLI HB) hb); clear BK477; clear HI0; clear HK; clear HB; clear HO503; have HO512 := n0_; have BK477 := n1_; have HI0 := n2_; have HK := n3_; have HB := n4_; clear n0_ n1_ n2_ n3_ n4_; clear hb ho48; obtain ⟨Ao49, co49, eo49⟩ := Kd.N_slice HO512.out; subst eo49) | ((with_reducible refine gC 32 rfl ?_); refine gL (some 56) Try.func32 #[.agg #[.int .i64 7, .string (⟨#[]⟩ : ByteArray), .string (⟨#[]⟩ : ByteArray), .string t472, .slice none 0 0], .slice Ao49 y510.length co49] ?_; (refine (tree_Node.calls _ _ _ _ _ (fun k_ => False) _ _ _ (fun k_ => ((w.heap.size ≤ k_) ∧ (k_ ≠ gb477 ∧ k_ ≠ g))) _ _ _ _ _ ?side1 ?side2 A39.out).mono ?_); (case side1 => exact Kd.V_nil _ _ _ _ _); (case side2 => exact Kd.N_V (HO512.out)); rintro e w50 ⟨v514, rfl, ho0, hb⟩; refine ⟨_, rfl, ?_⟩; replace HO512 := am (Kd.N_elder' (nB HO512) (Kd.N_base ho0) hb); have HO515 := am (Kd.N_lower (Kd.N_mono (ok' := fun k_ => (w.heap.size ≤ k_) ∧ k_ ≠ gb477 ∧ k_ ≠ g) ho0 (fun k_ hk_ => ⟨Or.elim hk_ (fun hs_ => Or.elim hs_ (fun hs_ => (hs_).elim) (fun hs_ => hs_.1)) (fun hn_ => (Nat.le_trans (keep_size (w := w) (g := g) (row := none) (kK HK)) hn_)), Or.elim hk_ (fun hs_ => Or.elim hs_ (fun hs_ => (hs_).elim) (fun hs_ => hs_.2.1)) (fun hn_ => (Kd.freshB (g := gb477) (o := .cells #[.int .i64 t471, .string t472, .int .i64 t473] 71 (0, 0)) (kB BK477) k_ hn_)), Or.elim hk_ (fun hs_ => Or.elim hs_ (fun hs_ => (hs_).elim) (fun hs_ => hs_.2.2)) (fun hn_ => (IsS83.fresh yI k_ hn_))⟩)) (keep_size (w := w) (g := g) (row := none) (kK HK))); replace BK477 := am (bB (kB BK477) hb); replace HK := am (KeepBut.trans (kK HK) (KeepBut.of_below hb g none) (.inl rfl)); replace HB := am (below_step (kLI HB) hb); replace HI0 := am (IsS83.below yI hb); (try clear ho0 hb)))
       go_ret
       exact ⟨_, yE, Kd.N_mono (nB HO515) (fun _ hk => hk.1), yI, (kLI HB), (kK HK)⟩
      ·replace c35 := Bool.eq_false_iff.mpr c35
       subst c35
       rw [if_neg (show ¬ (false = true) by decide)] at H
       have HC51 := am H
       clear H
       go_upto_region 11 with (fail)
       go_cut [57] (fun v57 wc => ∃ (kq : Nat) (x57_50 : Bool) (x1001_50 : Int) (x1002_50 : Int) (x1003_50 : Bool), v57 = .bool x57_50 ∧ Aside0 (parse_parser_line.j2 kq x57_50 s0_0 x1001_50 x1002_50 x1003_50 = some (r1, r2, r3, r4)) ∧ Aside0 (kq ≤ kj26) ∧ Aside0 (wc.heap[gb477]? = some (.cells #[.int .i64 t471, .string t472, .int .i64 t473] 71 (0, 0))) ∧ Aside0 (IsS83 w0 wc g s0_0 x1001_50 x1002_50 x1003_50) ∧ Aside0 (KeepBut w wc g none) ∧ Aside0 (Below w0.heap.size w0 wc))
       case first =>
        have H := HC51.out
        clear HC51
        by_cases c52 : t471 = 2
        ·rw [if_pos c52] at H
         have c52b0 := eT c52
         have c52b1 := nF c52
         clear c52
         (first | rw [c52b0] | (simp only [i64_w, i32_w]; rw [c52b0]) | skip)
         obtain ⟨⟨t516, t517, t518, t519⟩, A53, H⟩ := bO H
         try dsimp only at H
         have H' := am H
         clear H
         have hnb54 := NB477_0.out
         have hnc54 := NB0_477.out
         obtain ⟨hcz55_0, hcz55_1, hcz55_2, hfz55_0, hfz55_1, hfz55_2⟩ := bk3 BK477.out
         go_wp2_with (go_at_call 92; (with_reducible refine (parse_parser_is.calls _ _ _ _ _ _ _ _ _ _ _ w0 _ ?side1 ?side2 A53.out).mono ?_); (case side1 => exact yI); (case side2 => exact (kLI HB)); rintro e w56 ⟨rfl, hi, hb, hk⟩; replace BK477 := am (KeepBut.blk hk (kB BK477) NB477_0.out (by simp)); replace HK := am (KeepBut.trans (kK HK) hk (.inl rfl)); replace HB := am hb; replace HI0 := am hi; (try clear hi hb hk))
         go_meet
         case rel => exact ⟨_, (t516), (t517), (t518), (t519), yS, H', ⟨by have := HJ2.out; have := HJ26.out; first | omega | exact Nat.le_refl _⟩, ⟨kB BK477⟩, ⟨yI⟩, ⟨(kK HK)⟩, ⟨(kLI HB)⟩⟩
        ·rw [if_neg c52] at H
         have c52b0 := eF c52
         have c52b1 := nT c52
         (first | rw [c52b0] | (simp only [i64_w, i32_w]; rw [c52b0]) | skip)
         have H' := am H
         clear H
         have hnb57 := NB477_0.out
         have hnc57 := NB0_477.out
         obtain ⟨hcz58_0, hcz58_1, hcz58_2, hfz58_0, hfz58_1, hfz58_2⟩ := bk3 BK477.out
         go_wp2
         go_meet
         case rel => exact ⟨_, (false), (x1001_26), (x1002_26), (x1003_26), yS, H', ⟨by have := HJ2.out; have := HJ26.out; first | omega | exact Nat.le_refl _⟩, ⟨kB BK477⟩, ⟨yI⟩, ⟨(kK HK)⟩, ⟨(kLI HB)⟩⟩
       case rest =>
        clear HC51
        try clear c1
        try clear c2
        try clear p2
        try clear c3
        try clear c4
        try clear c5
        try clear c6
        try clear p6
        try clear c8
        try clear c8b0
        try clear c8b1
        try clear c9
        try clear c10
        try clear c13
        try clear c15
        try clear c28
        try clear c28b0
        try clear c28b1
        try clear c30
        try clear c32
        try clear c33
        try clear c35
        try clear c44
        try clear c52
        try clear c52b0
        try clear c52b1
        try clear c54
        try clear c57
        try clear hcz11_0 hcz11_1 hcz11_2 hfz11_0 hfz11_1 hfz11_2
        try clear hcz14_0 hcz14_1 hcz14_2 hfz14_0 hfz14_1 hfz14_2
        try clear hcz18_0 hcz18_1 hcz18_2 hcz18_3 hfz18_1 hfz18_2 hfz18_3
        try clear hcz31_0 hcz31_1 hcz31_2 hfz31_0 hfz31_1 hfz31_2
        try clear hcz34_0 hcz34_1 hcz34_2 hfz34_0 hfz34_1 hfz34_2
        try clear hcz40_0 hcz40_1 hcz40_2 hcz40_3 hfz40_1 hfz40_2 hfz40_3
        try clear hcz45_0 hcz45_1 hcz45_2 hfz45_0 hfz45_1 hfz45_2
        try clear hcz55_0 hcz55_1 hcz55_2 hfz55_0 hfz55_1 hfz55_2
        try clear hcz58_0 hcz58_1 hcz58_2 hfz58_0 hfz58_1 hfz58_2
        try clear hcz7_0 hcz7_1 hcz7_2 hfz7_0 hfz7_1 hfz7_2
        try clear p2
        try clear p6
        obtain ⟨kq, x57_50, x1001_50, x1002_50, x1003_50, rfl, HA, HJ50, BK477, HI0, HK, HB⟩ := hcut
        cases kq with
        | zero => exact absurd HA.out (by simp [parse_parser_line.j2])
        | succ kj50 =>
         have H := HA.out
         clear HA
         simp only [parse_parser_line.j2] at H
         by_cases c59 : x57_50 = true
         ·subst c59
          rw [if_pos rfl] at H
          obtain ⟨⟨t520, t523, t524, t525⟩, A60, H⟩ := bO H
          try dsimp only at H
          by_cases c61 : (!(t520).isEmpty) = true
          ·rw [if_pos c61] at H
           have c61b0 : (!(t520).isEmpty) = true := c61
           clear c61
           simp only [Option.some.injEq, Prod.mk.injEq] at H
           obtain ⟨rfl, rfl, rfl, rfl⟩ := H
           go_wp2_with ((with_reducible refine gC 95 rfl ?_); refine gL (some 66) Try.func95 #[.pointer (some ⟨g, 0, none⟩)] ?_; (with_reducible refine (parse_parser_amend.calls _ _ _ _ _ _ _ _ _ _ w0 _ ?side1 ?side2 A60.out).mono ?_); (case side1 => exact yI); (case side2 => exact (kLI HB)); rintro e w62 ⟨v521, rfl, hn_, ho0, hi, hb, hk⟩; obtain ⟨a_, ca_, rfl⟩ := N_some ho0 (by intro e_; rw [e_] at c61b0; cases c61b0); clear hn_; refine ⟨_, rfl, ?_⟩; have HO522 := am (Kd.N_lower (Kd.N_mono (ok' := fun k_ => (w.heap.size ≤ k_) ∧ k_ ≠ gb477 ∧ k_ ≠ g) ho0 (fun k_ hk_ => ⟨(Nat.le_trans (keep_size (w := w) (g := g) (row := none) (kK HK)) hk_), (fB BK477 k_ hk_), (IsS83.fresh yI k_ hk_)⟩)) (keep_size (w := w) (g := g) (row := none) (kK HK))); replace BK477 := am (KeepBut.blk hk (kB BK477) NB477_0.out (by simp)); replace HK := am (KeepBut.trans (kK HK) hk (.inl rfl)); replace HB := am hb; replace HI0 := am hi; (try clear ho0 hi hb hk))
           go_ret
           exact ⟨_, yE, Kd.N_mono (nB HO522) (fun _ hk => hk.1), yI, (kLI HB), (kK HK)⟩
          ·rw [if_neg c61] at H
           have c61b0 : (!(t520).isEmpty) = false := by simpa using c61
           clear c61
           obtain ⟨⟨t526, t529, t530, t531⟩, A63, H⟩ := bO H
           try dsimp only at H
           simp only [Option.some.injEq, Prod.mk.injEq] at H
           obtain ⟨rfl, rfl, rfl, rfl⟩ := H
           go_wp2_with (first | ((with_reducible refine gC 95 rfl ?_); refine gL (some 66) Try.func95 #[.pointer (some ⟨g, 0, none⟩)] ?_; (with_reducible refine (parse_parser_amend.calls _ _ _ _ _ _ _ _ _ _ w0 _ ?side1 ?side2 A60.out).mono ?_); (case side1 => exact yI); (case side2 => exact (kLI HB)); rintro e w64 ⟨v521, rfl, hn_, ho0, hi, hb, hk⟩; obtain rfl := hn_ (by cases t520_ : t520 with | nil => rfl | cons y_ ys_ => rw [t520_] at c61b0; cases c61b0); clear hn_; refine ⟨_, rfl, ?_⟩; have HO522 := am (Kd.N_lower (Kd.N_mono (ok' := fun k_ => (w.heap.size ≤ k_) ∧ k_ ≠ gb477 ∧ k_ ≠ g) ho0 (fun k_ hk_ => ⟨(Nat.le_trans (keep_size (w := w) (g := g) (row := none) (kK HK)) hk_), (fB BK477 k_ hk_), (IsS83.fresh yI k_ hk_)⟩)) (keep_size (w := w) (g := g) (row := none) (kK HK))); replace BK477 := am (KeepBut.blk hk (kB BK477) NB477_0.out (by simp)); replace HK := am (KeepBut.trans (kK HK) hk (.inl rfl)); replace HB := am hb; replace HI0 := am hi; (try clear ho0 hi hb hk)) | ((with_reducible refine gC 93 rfl ?_); refine gL (some 71) Try.func93 #[.pointer (some ⟨g, 0, none⟩)] ?_; (with_reducible refine (parse_parser_expr.calls _ _ _ _ _ _ _ _ _ w0 _ ?side1 ?side2 A63.out).mono ?_); (case side1 => exact yI); (case side2 => exact (kLI HB)); rintro e w65 ⟨v527, rfl, ho0, hi, hb, hk⟩; refine ⟨_, rfl, ?_⟩; have HO528 := am (Kd.N_lower (Kd.N_mono (ok' := fun k_ => (w.heap.size ≤ k_) ∧ some k_ ≠ (.slice none 0 0 : Value).ownBlock ∧ k_ ≠ gb477 ∧ k_ ≠ g) ho0 (fun k_ hk_ => ⟨(Nat.le_trans (keep_size (w := w) (g := g) (row := none) (kK HK)) hk_), (Kd.fresh' (Kd.N_lt (nB HO522)) k_ hk_), (fB BK477 k_ hk_), (IsS83.fresh yI k_ hk_)⟩)) (keep_size (w := w) (g := g) (row := none) (kK HK))); replace BK477 := am (KeepBut.blk hk (kB BK477) NB477_0.out (by simp)); replace HO522 := am (Kd.N_mono (Kd.N_told (Kd.N_oldK (Kd.N_mono (ok := fun k_ => (((w.heap.size ≤ k_)) ∧ (k_ ≠ gb477 ∧ k_ ≠ g))) (nB HO522) (fun k_ hk_ => (⟨hk_, hk_.2.2⟩ : _ ∧ k_ ≠ g))) hk) (Kd.N_base ho0)) (fun _ h_ => h_.1)); replace HK := am (KeepBut.trans (kK HK) hk (.inl rfl)); replace HB := am hb; replace HI0 := am hi; (try clear ho0 hi hb hk)))
           go_ret
           exact ⟨_, yE, Kd.N_mono (nB HO528) (fun _ hk => hk.1), yI, (kLI HB), (kK HK)⟩
         ·replace c59 := Bool.eq_false_iff.mpr c59
          subst c59
          rw [if_neg (show ¬ (false = true) by decide)] at H
          obtain ⟨⟨t532, t535, t536, t537⟩, A66, H⟩ := bO H
          try dsimp only at H
          simp only [Option.some.injEq, Prod.mk.injEq] at H
          obtain ⟨rfl, rfl, rfl, rfl⟩ := H
          go_wp2_with ((with_reducible refine gC 93 rfl ?_); refine gL (some 71) Try.func93 #[.pointer (some ⟨g, 0, none⟩)] ?_; (with_reducible refine (parse_parser_expr.calls _ _ _ _ _ _ _ _ _ w0 _ ?side1 ?side2 A66.out).mono ?_); (case side1 => exact yI); (case side2 => exact (kLI HB)); rintro e w67 ⟨v533, rfl, ho0, hi, hb, hk⟩; refine ⟨_, rfl, ?_⟩; have HO534 := am (Kd.N_lower (Kd.N_mono (ok' := fun k_ => (w.heap.size ≤ k_) ∧ k_ ≠ gb477 ∧ k_ ≠ g) ho0 (fun k_ hk_ => ⟨(Nat.le_trans (keep_size (w := w) (g := g) (row := none) (kK HK)) hk_), (fB BK477 k_ hk_), (IsS83.fresh yI k_ hk_)⟩)) (keep_size (w := w) (g := g) (row := none) (kK HK))); replace BK477 := am (KeepBut.blk hk (kB BK477) NB477_0.out (by simp)); replace HK := am (KeepBut.trans (kK HK) hk (.inl rfl)); replace HB := am hb; replace HI0 := am hi; (try clear ho0 hi hb hk))
          go_ret
          exact ⟨_, yE, Kd.N_mono (nB HO534) (fun _ hk => hk.1), yI, (kLI HB), (kK HK)⟩
end Go.Proofs.Ytdelccahgchadaa.P
end
section
namespace Go.Proofs.Ytdelccahgchadaa.P
open Go.RowKit Go.Proofs.YtdelccahgchadaaW.PrintWords Go.Proofs.YtdelccahgchadaaW.PrintLast Go.Proofs.YtdelccahgchadaaW.PrintMore
set_option linter.unusedVariables false
set_option linter.unusedSimpArgs false
def parse_Toks.f (k : Nat) (l0 : List S71) (a1 : Int) : Option (List S25 × Int × Int) :=
 (parse_parser_line.f k l0 0 a1 false).bind fun b => if b.2.2.2 = true ∨ b.2.1 < (l0.length : Int) then (parse_parser_look.f l0 b.2.1 b.2.2.1 false 0).bind fun t => some ([], t.2.2.1, 2)
  else (tree_Depth.f k b.1).bind fun d => if 40 < d then some ([], 0, 10) else some (b.1, 0, 0)
theorem parse_Toks.mono : ∀ a0 a1 k, LeO (parse_Toks.f k a0 a1) (parse_Toks.f (k + 1) a0 a1) := by
 intro a0 a1 k
 unfold parse_Toks.f
 repeat' first
   | (with_reducible exact parse_parser_line.mono _ _ _ _ _)
   | (with_reducible exact tree_Depth.mono _ _)
   | (with_reducible exact LeO.refl _)
   | (with_reducible exact LeO.none _)
   | (with_reducible refine LeO.ite ?_ ?_)
   | (with_reducible refine LeO.bind ?_ (fun _ => ?_))
set_option maxRecDepth 100000 in
set_option maxHeartbeats 4000000 in
theorem toks1 (k : Nat) (A0 : Option Addr) (c0 : Nat) (l0 : List S71) (a1 : Int) (n : List S25) (at_ en : Int) (t1 : Int) (t2 : ByteArray) (t3 t4 t5 : Int) (t6 : Bool) (w : World) (hr0 : Kd.C k71 w A0 l0.length l0) (hc0 : l0.length ≤ c0) (hl : parse_parser_line.f k l0 0 a1 false = some (n, at_, en, true)) (hk0 : parse_parser_look.f l0 at_ en false 0 = some (t1, t2, t3, t4, t5, t6)) :
  Calls Try.prog 50 #[.slice A0 l0.length c0, .int .i64 a1] w fun e w' => ∃ v0_ : Value, e = .returned (.tuple #[v0_, .int .i64 t3, .int .i64 2]) ∧ Kd.N k25 25 w' w.heap.size (fun k_ => (w.heap.size ≤ k_)) v0_ [] ∧ Below w.heap.size w w' := by
 have hu83 := Try.underlying83
 have HR := Aside0.mk hr0
 have HC := Aside0.mk hc0
 have HL := Aside0.mk hl
 have HK := Aside0.mk hk0
 clear hk0
 clear hr0 hc0 hl
 go_enter Try.func50, Try.ntmps50
 go_wp2_with (first | ((with_reducible refine gate_dst (N := 12) rfl ?_); refine box_event ?hg (N := 12) ?hd (cs := #[.slice A0 l0.length c0, .int .i64 0, .int .i64 a1, .bool false]) (t := 83) ?hr ?_; (case hd => rfl); (case hg => rfl); (case hr => first | (go_simp; done) | (go_simp; rfl)); intro g hg w1 hbox hb; have HI := Aside0.mk (show IsS83 w w1 g l0 0 a1 false from ⟨A0, c0, hbox, Nat.le_of_eq hg.symm, HR.out⟩); have HB := Aside0.mk hb; clear hg hbox hb) | ((with_reducible refine gate_callee (f := 66) rfl ?_); refine goesL_ (some 14) rfl rfl Try.func66 (by kernel_rfl) rfl #[.pointer (some ⟨g, 0, none⟩)] rfl (by (try simp only [List.map_toArray, List.map_cons, List.map_nil]); first | done | rfl) ?_; (with_reducible refine (parse_parser_line.calls k g l0 0 a1 false n at_ en true w _ ?side1 ?side2 HL.out).mono ?_); (case side1 => exact HI.out); (case side2 => exact HB.out); rintro e w2 ⟨v, rfl, ho, hi, hb, hk⟩; obtain ⟨Av, cv, rfl⟩ := Kd.N_slice ho; refine ⟨_, rfl, ?_⟩; have HO := Aside0.mk (Kd.N_lower (Kd.N_mono (ok' := fun k_ => w.heap.size ≤ k_) ho (fun k_ hk_ => Nat.le_trans HB.out.size hk_)) HB.out.size); clear HB HI ho hk; have HI := Aside0.mk hi; have HB := Aside0.mk hb; clear hi hb; obtain ⟨As, cs_, hG, hgG, hS⟩ := HI.out; have hc0 := cellS83_0 hG; have hc1 := cellS83_1 hG; have hc2 := cellS83_2 hG; have hc3 := cellS83_3 hG; have hf3 := blk_frozen hG 3; clear hG hgG hS) | ((with_reducible refine gate_callee (f := 67) rfl ?_); refine goesL_ (some 32) rfl rfl Try.func67 (by kernel_rfl) rfl #[.pointer (some ⟨g, 0, none⟩), .int .i64 0] rfl (by (try simp only [List.map_toArray, List.map_cons, List.map_nil]); first | done | rfl) ?_; (with_reducible refine (parse_parser_look.calls g l0 at_ en false 0 t1 t2 t3 t4 t5 t6 w _ ?side1 ?side2 HK.out).mono ?_); (case side1 => first | exact IsS83.set_3 HI.out _ | exact IsS83.set_3 (IsS83.drewN HI.out _) _ | exact HI.out); (case side2 => first | exact below_set HB.out (IsS83.ge HI.out) | exact below_set (pw_below_drewN HB.out _) (IsS83.ge HI.out) | exact HB.out); rintro e w3 ⟨rfl, hi, hb, hk⟩; refine ⟨_, rfl, ?_⟩; clear HB HI hk; have HI := Aside0.mk hi; have HB := Aside0.mk hb; clear hi hb))
 go_ret3
 exact ⟨_, rfl, Kd.N_nil _ _ _ _ _, HB.out⟩
set_option maxRecDepth 100000 in
set_option maxHeartbeats 4000000 in
theorem toks2 (k : Nat) (A0 : Option Addr) (c0 : Nat) (l0 : List S71) (a1 : Int) (n : List S25) (at_ en : Int) (t1 : Int) (t2 : ByteArray) (t3 t4 t5 : Int) (t6 : Bool) (w : World) (hr0 : Kd.C k71 w A0 l0.length l0) (hc0 : l0.length ≤ c0) (hl : parse_parser_line.f k l0 0 a1 false = some (n, at_, en, false)) (hk0 : parse_parser_look.f l0 at_ en false 0 = some (t1, t2, t3, t4, t5, t6)) (hlt : at_ < (l0.length : Int)) :
  Calls Try.prog 50 #[.slice A0 l0.length c0, .int .i64 a1] w fun e w' => ∃ v0_ : Value, e = .returned (.tuple #[v0_, .int .i64 t3, .int .i64 2]) ∧ Kd.N k25 25 w' w.heap.size (fun k_ => (w.heap.size ≤ k_)) v0_ [] ∧ Below w.heap.size w w' := by
 have hu83 := Try.underlying83
 have HR := Aside0.mk hr0
 have HC := Aside0.mk hc0
 have HL := Aside0.mk hl
 have HK := Aside0.mk hk0
 clear hk0
 have hd : decide (at_ < (l0.length : Int)) = true := decide_eq_true hlt
 clear hlt
 clear hr0 hc0 hl
 go_enter Try.func50, Try.ntmps50
 go_wp2_with (first | ((with_reducible refine gate_dst (N := 12) rfl ?_); refine box_event ?hg (N := 12) ?hd (cs := #[.slice A0 l0.length c0, .int .i64 0, .int .i64 a1, .bool false]) (t := 83) ?hr ?_; (case hd => rfl); (case hg => rfl); (case hr => first | (go_simp; done) | (go_simp; rfl)); intro g hg w1 hbox hb; have HI := Aside0.mk (show IsS83 w w1 g l0 0 a1 false from ⟨A0, c0, hbox, Nat.le_of_eq hg.symm, HR.out⟩); have HB := Aside0.mk hb; clear hg hbox hb) | ((with_reducible refine gate_callee (f := 66) rfl ?_); refine goesL_ (some 14) rfl rfl Try.func66 (by kernel_rfl) rfl #[.pointer (some ⟨g, 0, none⟩)] rfl (by (try simp only [List.map_toArray, List.map_cons, List.map_nil]); first | done | rfl) ?_; (with_reducible refine (parse_parser_line.calls k g l0 0 a1 false n at_ en false w _ ?side1 ?side2 HL.out).mono ?_); (case side1 => exact HI.out); (case side2 => exact HB.out); rintro e w2 ⟨v, rfl, ho, hi, hb, hk⟩; obtain ⟨Av, cv, rfl⟩ := Kd.N_slice ho; refine ⟨_, rfl, ?_⟩; have HO := Aside0.mk (Kd.N_lower (Kd.N_mono (ok' := fun k_ => w.heap.size ≤ k_) ho (fun k_ hk_ => Nat.le_trans HB.out.size hk_)) HB.out.size); clear HB HI ho hk; have HI := Aside0.mk hi; have HB := Aside0.mk hb; clear hi hb; obtain ⟨As, cs_, hG, hgG, hS⟩ := HI.out; have hc0 := cellS83_0 hG; have hc1 := cellS83_1 hG; have hc2 := cellS83_2 hG; have hc3 := cellS83_3 hG; have hf3 := blk_frozen hG 3; clear hG hgG hS) | ((with_reducible refine gate_callee (f := 67) rfl ?_); refine goesL_ (some 32) rfl rfl Try.func67 (by kernel_rfl) rfl #[.pointer (some ⟨g, 0, none⟩), .int .i64 0] rfl (by (try simp only [List.map_toArray, List.map_cons, List.map_nil]); first | done | rfl) ?_; (with_reducible refine (parse_parser_look.calls g l0 at_ en false 0 t1 t2 t3 t4 t5 t6 w _ ?side1 ?side2 HK.out).mono ?_); (case side1 => first | exact IsS83.set_3 HI.out _ | exact IsS83.set_3 (IsS83.drewN HI.out _) _ | exact HI.out); (case side2 => first | exact below_set HB.out (IsS83.ge HI.out) | exact below_set (pw_below_drewN HB.out _) (IsS83.ge HI.out) | exact HB.out); rintro e w3 ⟨rfl, hi, hb, hk⟩; refine ⟨_, rfl, ?_⟩; clear HB HI hk; have HI := Aside0.mk hi; have HB := Aside0.mk hb; clear hi hb))
 go_ret3
 exact ⟨_, rfl, Kd.N_nil _ _ _ _ _, HB.out⟩
set_option maxRecDepth 100000 in
set_option maxHeartbeats 4000000 in
theorem toks3 (k : Nat) (A0 : Option Addr) (c0 : Nat) (l0 : List S71) (a1 : Int) (n : List S25) (at_ en : Int) (d_ : Int) (w : World) (hr0 : Kd.C k71 w A0 l0.length l0) (hc0 : l0.length ≤ c0) (hl : parse_parser_line.f k l0 0 a1 false = some (n, at_, en, false)) (hge : ¬ at_ < (l0.length : Int)) (hd0 : tree_Depth.f k n = some d_) (h40 : 40 < d_) :
  Calls Try.prog 50 #[.slice A0 l0.length c0, .int .i64 a1] w fun e w' => ∃ v0_ : Value, e = .returned (.tuple #[v0_, .int .i64 0, .int .i64 10]) ∧ Kd.N k25 25 w' w.heap.size (fun k_ => (w.heap.size ≤ k_)) v0_ [] ∧ Below w.heap.size w w' := by
 have hu83 := Try.underlying83
 have HR := Aside0.mk hr0
 have HC := Aside0.mk hc0
 have HL := Aside0.mk hl
 have HD := Aside0.mk hd0
 clear hd0
 have hd : decide (at_ < (l0.length : Int)) = false := decide_eq_false hge
 clear hge
 have hq : decide (40 < d_) = true := decide_eq_true h40
 clear h40
 clear hr0 hc0 hl
 go_enter Try.func50, Try.ntmps50
 go_wp2_with (first | ((with_reducible refine gate_dst (N := 12) rfl ?_); refine box_event ?hg (N := 12) ?hd (cs := #[.slice A0 l0.length c0, .int .i64 0, .int .i64 a1, .bool false]) (t := 83) ?hr ?_; (case hd => rfl); (case hg => rfl); (case hr => first | (go_simp; done) | (go_simp; rfl)); intro g hg w1 hbox hb; have HI := Aside0.mk (show IsS83 w w1 g l0 0 a1 false from ⟨A0, c0, hbox, Nat.le_of_eq hg.symm, HR.out⟩); have HB := Aside0.mk hb; clear hg hbox hb) | ((with_reducible refine gate_callee (f := 66) rfl ?_); refine goesL_ (some 14) rfl rfl Try.func66 (by kernel_rfl) rfl #[.pointer (some ⟨g, 0, none⟩)] rfl (by (try simp only [List.map_toArray, List.map_cons, List.map_nil]); first | done | rfl) ?_; (with_reducible refine (parse_parser_line.calls k g l0 0 a1 false n at_ en false w _ ?side1 ?side2 HL.out).mono ?_); (case side1 => exact HI.out); (case side2 => exact HB.out); rintro e w2 ⟨v, rfl, ho, hi, hb, hk⟩; obtain ⟨Av, cv, rfl⟩ := Kd.N_slice ho; refine ⟨_, rfl, ?_⟩; have HO := Aside0.mk (Kd.N_lower (Kd.N_mono (ok' := fun k_ => w.heap.size ≤ k_) ho (fun k_ hk_ => Nat.le_trans HB.out.size hk_)) HB.out.size); clear HB HI ho hk; have HI := Aside0.mk hi; have HB := Aside0.mk hb; clear hi hb; obtain ⟨As, cs_, hG, hgG, hS⟩ := HI.out; have hc0 := cellS83_0 hG; have hc1 := cellS83_1 hG; have hc2 := cellS83_2 hG; have hc3 := cellS83_3 hG; have hf3 := blk_frozen hG 3; clear hG hgG hS) | (go_at_call 26; (with_reducible refine (tree_Depth.calls k _ _ n d_ _ ?side1 ?side2 HD.out).mono ?_); (case side1 => repeat (first | exact (Kd.N_reads' HO.out).2.2 | (with_reducible refine Kd.C_alloc ?_ _) | (with_reducible refine Kd.C_drewN ?_ _) | (with_reducible refine Kd.C_drew ?_))); (case side2 => exact (Kd.N_reads' HO.out).2.1); rintro e w3 ⟨rfl, hb⟩; have n0_ := Aside0.mk (Kd.N_below (by (with_reducible repeat (first | apply Kd.N_alloc | apply Kd.N_drewN | apply Kd.N_drew)); exact HO.out) hb); have n2_ := Aside0.mk (below_step (by repeat (first | (with_reducible first | exact HB.out | apply below_alloc | apply pw_below_drewN | apply below_drew1) | exact HB.out)) hb); clear HO HB; have HO := n0_; have HB := n2_; clear n0_ n2_; (try clear hb)))
 go_ret3
 exact ⟨_, rfl, Kd.N_nil _ _ _ _ _, HB.out⟩
set_option maxRecDepth 100000 in
set_option maxHeartbeats 4000000 in
theorem toks4 (k : Nat) (A0 : Option Addr) (c0 : Nat) (l0 : List S71) (a1 : Int) (n : List S25) (at_ en : Int) (d_ : Int) (w : World) (hr0 : Kd.C k71 w A0 l0.length l0) (hc0 : l0.length ≤ c0) (hl : parse_parser_line.f k l0 0 a1 false = some (n, at_, en, false)) (hge : ¬ at_ < (l0.length : Int)) (hd0 : tree_Depth.f k n = some d_) (h40 : ¬ 40 < d_) :
  Calls Try.prog 50 #[.slice A0 l0.length c0, .int .i64 a1] w fun e w' => ∃ v0_ : Value, e = .returned (.tuple #[v0_, .int .i64 0, .int .i64 0]) ∧ Kd.N k25 25 w' w.heap.size (fun k_ => (w.heap.size ≤ k_)) v0_ n ∧ Below w.heap.size w w' := by
 have hu83 := Try.underlying83
 have HR := Aside0.mk hr0
 have HC := Aside0.mk hc0
 have HL := Aside0.mk hl
 have HD := Aside0.mk hd0
 clear hd0
 have hd : decide (at_ < (l0.length : Int)) = false := decide_eq_false hge
 clear hge
 have hq : decide (40 < d_) = false := decide_eq_false h40
 clear h40
 clear hr0 hc0 hl
 go_enter Try.func50, Try.ntmps50
 go_wp2_with (first | ((with_reducible refine gate_dst (N := 12) rfl ?_); refine box_event ?hg (N := 12) ?hd (cs := #[.slice A0 l0.length c0, .int .i64 0, .int .i64 a1, .bool false]) (t := 83) ?hr ?_; (case hd => rfl); (case hg => rfl); (case hr => first | (go_simp; done) | (go_simp; rfl)); intro g hg w1 hbox hb; have HI := Aside0.mk (show IsS83 w w1 g l0 0 a1 false from ⟨A0, c0, hbox, Nat.le_of_eq hg.symm, HR.out⟩); have HB := Aside0.mk hb; clear hg hbox hb) | ((with_reducible refine gate_callee (f := 66) rfl ?_); refine goesL_ (some 14) rfl rfl Try.func66 (by kernel_rfl) rfl #[.pointer (some ⟨g, 0, none⟩)] rfl (by (try simp only [List.map_toArray, List.map_cons, List.map_nil]); first | done | rfl) ?_; (with_reducible refine (parse_parser_line.calls k g l0 0 a1 false n at_ en false w _ ?side1 ?side2 HL.out).mono ?_); (case side1 => exact HI.out); (case side2 => exact HB.out); rintro e w2 ⟨v, rfl, ho, hi, hb, hk⟩; obtain ⟨Av, cv, rfl⟩ := Kd.N_slice ho; refine ⟨_, rfl, ?_⟩; have HO := Aside0.mk (Kd.N_lower (Kd.N_mono (ok' := fun k_ => w.heap.size ≤ k_) ho (fun k_ hk_ => Nat.le_trans HB.out.size hk_)) HB.out.size); clear HB HI ho hk; have HI := Aside0.mk hi; have HB := Aside0.mk hb; clear hi hb; obtain ⟨As, cs_, hG, hgG, hS⟩ := HI.out; have hc0 := cellS83_0 hG; have hc1 := cellS83_1 hG; have hc2 := cellS83_2 hG; have hc3 := cellS83_3 hG; have hf3 := blk_frozen hG 3; clear hG hgG hS) | (go_at_call 26; (with_reducible refine (tree_Depth.calls k _ _ n d_ _ ?side1 ?side2 HD.out).mono ?_); (case side1 => repeat (first | exact (Kd.N_reads' HO.out).2.2 | (with_reducible refine Kd.C_alloc ?_ _) | (with_reducible refine Kd.C_drewN ?_ _) | (with_reducible refine Kd.C_drew ?_))); (case side2 => exact (Kd.N_reads' HO.out).2.1); rintro e w3 ⟨rfl, hb⟩; have n0_ := Aside0.mk (Kd.N_below (by (with_reducible repeat (first | apply Kd.N_alloc | apply Kd.N_drewN | apply Kd.N_drew)); exact HO.out) hb); have n2_ := Aside0.mk (below_step (by repeat (first | (with_reducible first | exact HB.out | apply below_alloc | apply pw_below_drewN | apply below_drew1) | exact HB.out)) hb); clear HO HB; have HO := n0_; have HB := n2_; clear n0_ n2_; (try clear hb)))
 go_ret3
 exact ⟨_, rfl, HO.out, HB.out⟩
theorem parse_Toks.calls (k : Nat) (A0 : Option Addr) (c0 : Nat) (l0 : List S71) (a1 : Int) (r1 : List S25) (r2 r3 : Int) (w : World) (hr0 : Kd.C k71 w A0 l0.length l0) (hc0 : l0.length ≤ c0) (h : parse_Toks.f k l0 a1 = some (r1, r2, r3)) :
  Calls Try.prog 50 #[.slice A0 l0.length c0, .int .i64 a1] w fun e w' => ∃ v0_ : Value, e = .returned (.tuple #[v0_, .int .i64 r2, .int .i64 r3]) ∧ Kd.N k25 25 w' w.heap.size (fun k_ => (w.heap.size ≤ k_)) v0_ r1 ∧ Below w.heap.size w w' := by
 unfold parse_Toks.f at h
 obtain ⟨⟨n, at_, en, bd⟩, hl, h⟩ := Option.bind_eq_some_iff.mp h
 simp only at h
 by_cases hc : bd = true ∨ at_ < (l0.length : Int)
 ·rw [if_pos hc] at h
  obtain ⟨⟨t1, t2, t3, t4, t5, t6⟩, hk, h⟩ := Option.bind_eq_some_iff.mp h
  injection h with h
  obtain ⟨rfl, rfl, rfl⟩ : r1 = [] ∧ r2 = t3 ∧ r3 = 2 := by
   injection h with h1 h2
   injection h2 with h2 h3
   exact ⟨h1.symm, h2.symm, h3.symm⟩
  cases bd with
  | true => exact toks1 k A0 c0 l0 a1 n at_ en t1 t2 _ t4 t5 t6 w hr0 hc0 hl hk
  | false => exact toks2 k A0 c0 l0 a1 n at_ en t1 t2 _ t4 t5 t6 w hr0 hc0 hl hk (hc.resolve_left (fun e => by cases e))
 ·rw [if_neg hc] at h
  cases bd with
  | true => exact absurd (.inl rfl) hc
  | false =>
   obtain ⟨d, hd, h⟩ := Option.bind_eq_some_iff.mp h
   have hge : ¬ at_ < (l0.length : Int) := fun e => hc (.inr e)
   by_cases h40 : 40 < d
   ·rw [if_pos h40] at h
    injection h with h
    injection h with h1 h2
    injection h2 with h2 h3
    subst h1 h2 h3
    exact toks3 k A0 c0 l0 a1 n at_ en d w hr0 hc0 hl hge hd h40
   ·rw [if_neg h40] at h
    injection h with h
    injection h with h1 h2
    injection h2 with h2 h3
    subst h1 h2 h3
    exact toks4 k A0 c0 l0 a1 n at_ en d w hr0 hc0 hl hge hd h40
end Go.Proofs.Ytdelccahgchadaa.P
end
section
namespace Go.Proofs.Ytdelccahgchadaa.P
open Go.RowKit Go.Proofs.YtdelccahgchadaaW.PrintWords Go.Proofs.YtdelccahgchadaaW.PrintLast Go.Proofs.YtdelccahgchadaaW.PrintMore
attribute [local go_sem] max2_int min2_int max_two min_two max_three min_three max_four min_four   
set_option linter.unusedVariables false
set_option linter.unusedSimpArgs false
def parse_Parse.f (k : Nat) (a0 : ByteArray) : Option ((List (S25)) × Int × Int) := (lex_Lex.f k a0).bind fun bt882 => (if bt882.2.2 = 0 then ((parse_Toks.f k bt882.1 (a0.size : Int)).bind fun bt887 => (some (bt887.1, bt887.2.1, bt887.2.2))) else (some (([] : List (S25)), bt882.2.1, bt882.2.2)))
theorem parse_Parse.mono : ∀ a0 k, LeO (parse_Parse.f k a0) (parse_Parse.f (k + 1) a0) := by
 intro a0 k
 unfold parse_Parse.f
 with_reducible repeat' first
   | exact lex_Lex.mono _ _
   | exact parse_Toks.mono _ _ _
   | exact LeO.refl _
   | exact LeO.none _
   | refine LeO.ite ?_ ?_
   | refine LeO.bind ?_ (fun _ => ?_)
set_option maxHeartbeats 8000000 in
set_option maxRecDepth 100000 in
theorem parse_Parse.calls (k : Nat) (a0 : ByteArray) (r1 : List (S25)) (r2 : Int) (r3 : Int) (w : World) (h : parse_Parse.f k a0 = some (r1, r2, r3)) :
  Calls Try.prog 34 #[.string a0] w fun e w' => ∃ v0_ : Value, e = .returned (.tuple #[v0_, .int .i64 r2, .int .i64 r3]) ∧ Kd.N k25 25 w' w.heap.size (fun k_ => (w.heap.size ≤ k_)) v0_ r1 ∧ Below w.heap.size w w' := by
 have HB := am (Below.refl w.heap.size w)
 unfold parse_Parse.f at h
 have H := h
 clear h
 obtain ⟨⟨t882, t883, t884⟩, A2, H⟩ := bO H
 try dsimp only at H
 by_cases c3 : t884 = 0
 ·rw [if_pos c3] at H
  have c3b0 := eT c3
  have c3b1 := nF c3
  clear c3
  obtain ⟨⟨t887, t890, t891⟩, A4, H⟩ := bO H
  try dsimp only at H
  simp only [Option.some.injEq, Prod.mk.injEq] at H
  obtain ⟨rfl, rfl, rfl⟩ := H
  go_enter Try.func34, Try.ntmps34
  go_wp2_with (first | ((with_reducible refine gC 49 rfl ?_); refine gL (some 10) Try.func49 #[.string a0] ?_; (with_reducible refine (lex_Lex.calls _ _ _ _ _ _ A2.out).mono ?_); rintro e w5 ⟨v885, rfl, ho0, hb⟩; refine ⟨_, rfl, ?_⟩; have HO886 := am (Kd.R_lower (Kd.R_newM (M := fun k_ => (w.heap.size ≤ k_)) ho0 (below_size (kL HB)) (fun k_ h_ => h_)) (below_size (kL HB))); replace HB := am (below_step (kL HB) hb); (try clear ho0 hb); obtain ⟨Ao6, co6, eo6⟩ := Kd.R_slice HO886.out; subst eo6) | ((with_reducible refine gC 50 rfl ?_); refine gL (some 21) Try.func50 #[.slice Ao6 t882.length co6, .int .i64 (a0.size : Int)] ?_; (with_reducible refine (parse_Toks.calls _ _ _ _ _ _ _ _ _ ?side1 ?side2 A4.out).mono ?_); (case side1 => exact (Kd.R_reads' (rB HO886)).2.2); (case side2 => exact (Kd.R_reads' HO886.out).2.1); rintro e w7 ⟨v888, rfl, ho0, hb⟩; refine ⟨_, rfl, ?_⟩; have HO889 := am (Kd.N_lower (Kd.N_mono (ok' := fun k_ => (w.heap.size ≤ k_) ∧ some k_ ≠ (.slice Ao6 t882.length co6 : Value).ownBlock) ho0 (fun k_ hk_ => ⟨(Nat.le_trans (below_size (kL HB)) hk_), (Kd.fresh' (Kd.R_lt (rB HO886)) k_ hk_)⟩)) (below_size (kL HB))); replace HO886 := am (Kd.R_below (rB HO886) hb); replace HB := am (below_step (kL HB) hb); (try clear ho0 hb)))
  go_ret3
  exact ⟨_, yE, Kd.N_mono (nB HO889) (fun _ hk => hk.1), (kL HB)⟩
 ·rw [if_neg c3] at H
  have c3b0 := eF c3
  have c3b1 := nT c3
  simp only [Option.some.injEq, Prod.mk.injEq] at H
  obtain ⟨rfl, rfl, rfl⟩ := H
  go_enter Try.func34, Try.ntmps34
  go_wp2_with ((with_reducible refine gC 49 rfl ?_); refine gL (some 10) Try.func49 #[.string a0] ?_; (with_reducible refine (lex_Lex.calls _ _ _ _ _ _ A2.out).mono ?_); rintro e w8 ⟨v885, rfl, ho0, hb⟩; refine ⟨_, rfl, ?_⟩; have HO886 := am (Kd.R_lower (Kd.R_newM (M := fun k_ => (w.heap.size ≤ k_)) ho0 (below_size (kL HB)) (fun k_ h_ => h_)) (below_size (kL HB))); replace HB := am (below_step (kL HB) hb); (try clear ho0 hb))
  go_ret3
  exact ⟨_, yE, yZ, (kL HB)⟩
end Go.Proofs.Ytdelccahgchadaa.P
end
section
namespace Go.Proofs.Ytdelccahgchadaa.P
open Go.RowKit Go.Proofs.YtdelccahgchadaaW.PrintWords Go.Proofs.YtdelccahgchadaaW.PrintLast Go.Proofs.YtdelccahgchadaaW.PrintMore
set_option linter.unusedVariables false
set_option linter.unusedSimpArgs false
theorem set_alloc (W : World) (o o' : Obj) : ChangeMaps.setBlock (W.alloc o) W.heap.size o' = W.alloc o' := by
 have h1 : ∀ q, (W.alloc q).heap = W.heap.push q := fun q => by rfl
 have h2 : ∀ q, W.alloc q = { W with heap := W.heap.push q } := fun q => by rfl
 rw [h2 o', h2 o]
 unfold ChangeMaps.setBlock
 dsimp only
 congr 1
 apply Array.ext_getElem?
 intro i
 rw [Array.getElem?_setIfInBounds, Array.getElem?_push, Array.getElem?_push]
 by_cases hh : W.heap.size = i
 ·rw [if_pos hh, if_pos (by simp), if_pos hh.symm]
 ·rw [if_neg hh, if_neg (fun e => hh e.symm), if_neg (fun e => hh e.symm)]
theorem ins_alloc (W : World) (es : Array MapEntry) (c : Nat) (n : Int) (f : Value) (hn : (Lit.int .i64 n).wf = true) (hno : Instr.findNow (.int .i64) (.int .i64 n) es.toList 0 = some none) :
  (Instr.mapUpdate 92 (.map (some W.heap.size)) (.int .i64 n) f).run Try.prog (W.alloc (.map es c)) = .ok () (W.alloc (.map (es.push ⟨.int .i64 n, f, c⟩) (c + 1))) := by
 have hb : (W.alloc (.map es c)).heap[W.heap.size]? = some (.map es c) := (MapKept.heap_alloc W _).1
 have hk := (Maps.int_keyed Try.underlying3).check (W.alloc (.map es c)) false (Maps.keyOf_int_mk Try.underlying3 hn)
 refine Eq.trans (b := .ok () (ChangeMaps.setBlock (W.alloc (.map es c)) W.heap.size (.map (es.push ⟨.int .i64 n, f, c⟩) (c + 1)))) ?_ (by rw [set_alloc])
 simp [Instr.mapUpdate, run_underlying Try.underlying92, MapKept.run_getObj_map hb, hk, Instr.findKey, run_underlying Try.underlying3, hno, MapKept.run_setObj_map _ hb, Result.andThen, ChangeMaps.setBlock]
theorem look_alloc (W : World) (es : Array MapEntry) (c : Nat) (n : Int) (f : Value) (i : Nat) (hn : (Lit.int .i64 n).wf = true) (he : es.isEmpty = false) (hno : Instr.findNow (.int .i64) (.int .i64 n) es.toList 0 = some (some (i, f))) :
  (Instr.lookup 92 (.map (some W.heap.size)) (.int .i64 n) false).run Try.prog (W.alloc (.map es c)) = .ok f (W.alloc (.map es c)) := by
 have hb : (W.alloc (.map es c)).heap[W.heap.size]? = some (.map es c) := (MapKept.heap_alloc W _).1
 have hk := (Maps.int_keyed Try.underlying3).check (W.alloc (.map es c)) false (Maps.keyOf_int_mk Try.underlying3 hn)
 simp [Instr.lookup, run_underlying Try.underlying92, MapKept.run_getObj_map hb, he, hk, Instr.findKey, run_underlying Try.underlying3, hno, Result.andThen]
theorem ins_at {W : World} {b : Nat} (hb : b = W.heap.size) (es : Array MapEntry) (c : Nat) (n : Int) (f : Value) (hn : (Lit.int .i64 n).wf = true) (hno : Instr.findNow (.int .i64) (.int .i64 n) es.toList 0 = some none) :
  (Instr.mapUpdate 92 (.map (some b)) (.int .i64 n) f).run Try.prog (W.alloc (.map es c)) = .ok () (W.alloc (.map (es.push ⟨.int .i64 n, f, c⟩) (c + 1))) := by
 rw [hb]; exact ins_alloc W es c n f hn hno
theorem look_at {W : World} {b : Nat} (hb : b = W.heap.size) (es : Array MapEntry) (c : Nat) (n : Int) (f : Value) (i : Nat) (hn : (Lit.int .i64 n).wf = true) (he : es.isEmpty = false) (hno : Instr.findNow (.int .i64) (.int .i64 n) es.toList 0 = some (some (i, f))) :
  (Instr.lookup 92 (.map (some b)) (.int .i64 n) false).run Try.prog (W.alloc (.map es c)) = .ok f (W.alloc (.map es c)) := by
 rw [hb]; exact look_alloc W es c n f i hn he hno
theorem look_of {W V : World} {b : Nat} {es : Array MapEntry} {c : Nat} {j : Sem Unit} (hm : j.run Try.prog V = .ok () (W.alloc (.map es c))) (hb : b = W.heap.size) (n : Int) (f : Value) (i : Nat) (hn : (Lit.int .i64 n).wf = true) (he : es.isEmpty = false) (hno : Instr.findNow (.int .i64) (.int .i64 n) es.toList 0 = some (some (i, f))) :
  (Instr.lookup 92 (.map (some b)) (.int .i64 n) false).run Try.prog (W.alloc (.map es c)) = .ok f (W.alloc (.map es c)) := look_at hb es c n f i hn he hno
def pickM (NXF : NX_F) (kd : Int) (l : List S25) (at_ : Int) (n : S25) : Option (ByteArray × Int) :=
 if kd = 1 then print_printer_literal.f (n.f4.length + 2) l at_ kd n.f1 n.f2 n.f3 n.f4
 else if kd = 2 then print_printer_name.f l at_ kd n.f1 n.f2 n.f3 n.f4
 else if kd = 3 then print_printer_monad.f NXF l at_ kd n.f1 n.f2 n.f3 n.f4
 else if kd = 4 then print_printer_dyad.f NXF l at_ kd n.f1 n.f2 n.f3 n.f4
 else if kd = 5 then print_printer_assign.f NXF l at_ kd n.f1 n.f2 n.f3 n.f4
 else if kd = 6 then print_printer_amend.f NXF l at_ kd n.f1 n.f2 n.f3 n.f4
 else if kd = 7 then print_printer_define.f NXF l at_ kd n.f1 n.f2 n.f3 n.f4
 else if kd = 8 then print_printer_index.f NXF l at_ kd n.f1 n.f2 n.f3 n.f4
 else none
set_option maxRecDepth 100000 in
set_option maxHeartbeats 4000000 in
theorem next1 (kd : Int) (NXF : NX_F) (NXC : NX_C NXF) (g : Nat) (s0_0 : List S25) (s0_1 : Int) (r1 : ByteArray) (r2 : Int) (w0 w : World) (hI : IsS74 w0 w g s0_0 s0_1) (hB : Below w0.heap.size w0 w) (h0 : 0 ≤ s0_1) (hlt0 : s0_1 < (s0_0.length : Int)) (hk : (rd_T25 s0_0 s0_1).f0 = kd) (hkd : kd = 1 ∨ kd = 2 ∨ kd = 3 ∨ kd = 4 ∨ kd = 5 ∨ kd = 6 ∨ kd = 7 ∨ kd = 8)
  (h : pickM NXF kd s0_0 (wrap64 (s0_1 + 1)) (rd_T25 s0_0 s0_1) = some (r1, r2)) :
  Calls Try.prog 54 #[.pointer (some ⟨g, 0, none⟩)] w fun e w' => e = .returned (.string r1) ∧ IsS74 w0 w' g s0_0 r2 ∧ Below w0.heap.size w0 w' ∧ KeepBut w w' g none := by
 have hlt := IsS74.lt hI
 have HI := Aside0.mk hI
 have HK := Aside0.mk (KeepBut.refl w g none)
 have HB := Aside0.mk hB
 have GE := Aside0.mk hB.size
 have NE := Aside0.mk (Nat.ne_of_lt hlt)
 have A := Aside0.mk h
 clear hI hB h
 obtain ⟨A0, c0, hb, hg, hr⟩ := HI.out
 have HR := Aside0.mk hr
 have x0 := cellS74_0 hb
 have x1 := cellS74_1 hb
 have f1 := blk_frozen hb 1
 have hg' := hg
 clear hb hg hr
 have q0 := eq_true h0
 have q1 := eq_true hlt0
 obtain ⟨ad, A4, c4, ea, e0, e1, e2, e3, e4, el, ei⟩ := at_T25 HR.out s0_1 h0 hlt0
 cases ea
 have hfa : ∀ ad', A4 = some ad' → 0 < (rd_T25 s0_0 s0_1).f4.length → ad'.block ≠ g := by
  intro ad' e hn
  rw [e] at ei
  exact Nat.ne_of_lt (Nat.lt_of_lt_of_le (Kd.C_lt ei hn (by decide)) hg')
 have EI := Aside0.mk ei
 have EL := Aside0.mk el
 clear ei el
 replace e0 := pw_cell_below HB.out e0
 replace e1 := pw_cell_below HB.out e1
 replace e2 := pw_cell_below HB.out e2
 replace e3 := pw_cell_below HB.out e3
 replace e4 := pw_cell_below HB.out e4
 have hba := below_alloc (Below.refl w.heap.size w) (Obj.cells #[Value.int IntKind.i64 0, Value.string { data := #[] }, Value.string { data := #[] }, Value.string { data := #[] }, Value.slice none 0 0] 25)
 have y0 := pw_cell_below hba x0
 have y1 := pw_cell_below hba x1
 have y2 := pw_cell_below hba e0
 have y3 := pw_cell_below hba e1
 have y4 := pw_cell_below hba e2
 have y5 := pw_cell_below hba e3
 have y6 := pw_cell_below hba e4
 clear hba
 go_enter Try.func54, Try.ntmps54
 go_wp2_with fail
 go_region
 obtain ⟨n1, hn1⟩ : ∃ n1, n1 = (rd_T25 s0_0 s0_1).f1 := ⟨_, rfl⟩
 obtain ⟨n2, hn2⟩ : ∃ n2, n2 = (rd_T25 s0_0 s0_1).f2 := ⟨_, rfl⟩
 obtain ⟨n3, hn3⟩ : ∃ n3, n3 = (rd_T25 s0_0 s0_1).f3 := ⟨_, rfl⟩
 obtain ⟨n4, hn4⟩ : ∃ n4, n4 = (rd_T25 s0_0 s0_1).f4 := ⟨_, rfl⟩
 rw [← hn1, ← hn2, ← hn3, ← hn4]
 obtain ⟨W, hW⟩ : ∃ W, W = (w.alloc (Obj.cells #[Value.int IntKind.i64 kd, Value.string n1, Value.string n2, Value.string n3, Value.slice A4 n4.length c4] 25)).drew := ⟨_, rfl⟩
 have IW : Aside0 (IsS74 w0 W g s0_0 s0_1) := ⟨by rw [hW]; exact IsS74.drew (IsS74.alloc HI.out _)⟩
 have BW : Aside0 (Below w0.heap.size w0 W) := ⟨by rw [hW]; exact below_drew1 (below_alloc HB.out _)⟩
 have KW : Aside0 (KeepBut w W g none) := ⟨by rw [hW]; exact keep_drew (keep_alloc HK.out _)⟩
 have bn : W.heap[w.heap.size]? = some (.cells #[Value.int IntKind.i64 kd, Value.string n1, Value.string n2, Value.string n3, Value.slice A4 n4.length c4] 25 (0, 0)) := by rw [hW]; refine blk_drew ?_; simpa using heap_alloc_new w _
 rw [← hW]
 clear hW
 clear y0 y1 y2 y3 y4 y5 y6 e0 e1 e2 e3 e4 x0 x1 f1
 obtain ⟨gn, hgn⟩ : ∃ gn, gn = w.heap.size := ⟨_, rfl⟩
 rw [← hgn] at bn ⊢
 have GN : Aside0 (w.heap.size ≤ gn) := ⟨Nat.le_of_eq hgn.symm⟩
 have NG : gn ≠ g := by rw [hgn]; exact Nat.ne_of_gt hlt
 rw [← hgn] at NE GE
 clear hgn hlt
 obtain ⟨A1, c1, hb, hg, hr1⟩ := IW.out
 have x0 := cellS74_0 hb
 have x1 := cellS74_1 hb
 have f1 := blk_frozen hb 1
 have z0 := (blk_cell bn 0).trans rfl
 clear hb hg hr1
 have hsz : W.heap.size = (W.setCell ⟨g, 1, none⟩ (Value.int IntKind.i64 (wrap64 (s0_1 + 1)))).heap.size := by simp
 have hm := @run_makeMap Try.prog 92 (W.setCell ⟨g, 1, none⟩ (Value.int IntKind.i64 (wrap64 (s0_1 + 1))))
 have m1 : (Instr.mapUpdate 92 (.map (some W.heap.size)) (.int .i64 1) (.func (.func 71) #[] #[])).run Try.prog ((W.setCell ⟨g, 1, none⟩ (Value.int IntKind.i64 (wrap64 (s0_1 + 1)))).alloc (.map #[] 0)) = .ok () ((W.setCell ⟨g, 1, none⟩ (Value.int IntKind.i64 (wrap64 (s0_1 + 1)))).alloc (.map #[(⟨.int .i64 1, (.func (.func 71) #[] #[]), 0⟩ : MapEntry)] 1)) := ins_at hsz _ 0 1 _ rfl rfl
 have m2 : (Instr.mapUpdate 92 (.map (some W.heap.size)) (.int .i64 2) (.func (.func 72) #[] #[])).run Try.prog ((W.setCell ⟨g, 1, none⟩ (Value.int IntKind.i64 (wrap64 (s0_1 + 1)))).alloc (.map #[(⟨.int .i64 1, (.func (.func 71) #[] #[]), 0⟩ : MapEntry)] 1)) = .ok () ((W.setCell ⟨g, 1, none⟩ (Value.int IntKind.i64 (wrap64 (s0_1 + 1)))).alloc (.map #[(⟨.int .i64 1, (.func (.func 71) #[] #[]), 0⟩ : MapEntry), (⟨.int .i64 2, (.func (.func 72) #[] #[]), 1⟩ : MapEntry)] 2)) := ins_at hsz _ 1 2 _ rfl rfl
 have m3 : (Instr.mapUpdate 92 (.map (some W.heap.size)) (.int .i64 3) (.func (.func 73) #[] #[])).run Try.prog ((W.setCell ⟨g, 1, none⟩ (Value.int IntKind.i64 (wrap64 (s0_1 + 1)))).alloc (.map #[(⟨.int .i64 1, (.func (.func 71) #[] #[]), 0⟩ : MapEntry), (⟨.int .i64 2, (.func (.func 72) #[] #[]), 1⟩ : MapEntry)] 2)) = .ok () ((W.setCell ⟨g, 1, none⟩ (Value.int IntKind.i64 (wrap64 (s0_1 + 1)))).alloc (.map #[(⟨.int .i64 1, (.func (.func 71) #[] #[]), 0⟩ : MapEntry), (⟨.int .i64 2, (.func (.func 72) #[] #[]), 1⟩ : MapEntry), (⟨.int .i64 3, (.func (.func 73) #[] #[]), 2⟩ : MapEntry)] 3)) := ins_at hsz _ 2 3 _ rfl rfl
 have m4 : (Instr.mapUpdate 92 (.map (some W.heap.size)) (.int .i64 4) (.func (.func 74) #[] #[])).run Try.prog ((W.setCell ⟨g, 1, none⟩ (Value.int IntKind.i64 (wrap64 (s0_1 + 1)))).alloc (.map #[(⟨.int .i64 1, (.func (.func 71) #[] #[]), 0⟩ : MapEntry), (⟨.int .i64 2, (.func (.func 72) #[] #[]), 1⟩ : MapEntry), (⟨.int .i64 3, (.func (.func 73) #[] #[]), 2⟩ : MapEntry)] 3)) = .ok () ((W.setCell ⟨g, 1, none⟩ (Value.int IntKind.i64 (wrap64 (s0_1 + 1)))).alloc (.map #[(⟨.int .i64 1, (.func (.func 71) #[] #[]), 0⟩ : MapEntry), (⟨.int .i64 2, (.func (.func 72) #[] #[]), 1⟩ : MapEntry), (⟨.int .i64 3, (.func (.func 73) #[] #[]), 2⟩ : MapEntry), (⟨.int .i64 4, (.func (.func 74) #[] #[]), 3⟩ : MapEntry)] 4)) := ins_at hsz _ 3 4 _ rfl rfl
 have m5 : (Instr.mapUpdate 92 (.map (some W.heap.size)) (.int .i64 5) (.func (.func 75) #[] #[])).run Try.prog ((W.setCell ⟨g, 1, none⟩ (Value.int IntKind.i64 (wrap64 (s0_1 + 1)))).alloc (.map #[(⟨.int .i64 1, (.func (.func 71) #[] #[]), 0⟩ : MapEntry), (⟨.int .i64 2, (.func (.func 72) #[] #[]), 1⟩ : MapEntry), (⟨.int .i64 3, (.func (.func 73) #[] #[]), 2⟩ : MapEntry), (⟨.int .i64 4, (.func (.func 74) #[] #[]), 3⟩ : MapEntry)] 4)) = .ok () ((W.setCell ⟨g, 1, none⟩ (Value.int IntKind.i64 (wrap64 (s0_1 + 1)))).alloc (.map #[(⟨.int .i64 1, (.func (.func 71) #[] #[]), 0⟩ : MapEntry), (⟨.int .i64 2, (.func (.func 72) #[] #[]), 1⟩ : MapEntry), (⟨.int .i64 3, (.func (.func 73) #[] #[]), 2⟩ : MapEntry), (⟨.int .i64 4, (.func (.func 74) #[] #[]), 3⟩ : MapEntry), (⟨.int .i64 5, (.func (.func 75) #[] #[]), 4⟩ : MapEntry)] 5)) := ins_at hsz _ 4 5 _ rfl rfl
 have m6 : (Instr.mapUpdate 92 (.map (some W.heap.size)) (.int .i64 6) (.func (.func 76) #[] #[])).run Try.prog ((W.setCell ⟨g, 1, none⟩ (Value.int IntKind.i64 (wrap64 (s0_1 + 1)))).alloc (.map #[(⟨.int .i64 1, (.func (.func 71) #[] #[]), 0⟩ : MapEntry), (⟨.int .i64 2, (.func (.func 72) #[] #[]), 1⟩ : MapEntry), (⟨.int .i64 3, (.func (.func 73) #[] #[]), 2⟩ : MapEntry), (⟨.int .i64 4, (.func (.func 74) #[] #[]), 3⟩ : MapEntry), (⟨.int .i64 5, (.func (.func 75) #[] #[]), 4⟩ : MapEntry)] 5)) = .ok () ((W.setCell ⟨g, 1, none⟩ (Value.int IntKind.i64 (wrap64 (s0_1 + 1)))).alloc (.map #[(⟨.int .i64 1, (.func (.func 71) #[] #[]), 0⟩ : MapEntry), (⟨.int .i64 2, (.func (.func 72) #[] #[]), 1⟩ : MapEntry), (⟨.int .i64 3, (.func (.func 73) #[] #[]), 2⟩ : MapEntry), (⟨.int .i64 4, (.func (.func 74) #[] #[]), 3⟩ : MapEntry), (⟨.int .i64 5, (.func (.func 75) #[] #[]), 4⟩ : MapEntry), (⟨.int .i64 6, (.func (.func 76) #[] #[]), 5⟩ : MapEntry)] 6)) := ins_at hsz _ 5 6 _ rfl rfl
 have m7 : (Instr.mapUpdate 92 (.map (some W.heap.size)) (.int .i64 7) (.func (.func 77) #[] #[])).run Try.prog ((W.setCell ⟨g, 1, none⟩ (Value.int IntKind.i64 (wrap64 (s0_1 + 1)))).alloc (.map #[(⟨.int .i64 1, (.func (.func 71) #[] #[]), 0⟩ : MapEntry), (⟨.int .i64 2, (.func (.func 72) #[] #[]), 1⟩ : MapEntry), (⟨.int .i64 3, (.func (.func 73) #[] #[]), 2⟩ : MapEntry), (⟨.int .i64 4, (.func (.func 74) #[] #[]), 3⟩ : MapEntry), (⟨.int .i64 5, (.func (.func 75) #[] #[]), 4⟩ : MapEntry), (⟨.int .i64 6, (.func (.func 76) #[] #[]), 5⟩ : MapEntry)] 6)) = .ok () ((W.setCell ⟨g, 1, none⟩ (Value.int IntKind.i64 (wrap64 (s0_1 + 1)))).alloc (.map #[(⟨.int .i64 1, (.func (.func 71) #[] #[]), 0⟩ : MapEntry), (⟨.int .i64 2, (.func (.func 72) #[] #[]), 1⟩ : MapEntry), (⟨.int .i64 3, (.func (.func 73) #[] #[]), 2⟩ : MapEntry), (⟨.int .i64 4, (.func (.func 74) #[] #[]), 3⟩ : MapEntry), (⟨.int .i64 5, (.func (.func 75) #[] #[]), 4⟩ : MapEntry), (⟨.int .i64 6, (.func (.func 76) #[] #[]), 5⟩ : MapEntry), (⟨.int .i64 7, (.func (.func 77) #[] #[]), 6⟩ : MapEntry)] 7)) := ins_at hsz _ 6 7 _ rfl rfl
 have m8 : (Instr.mapUpdate 92 (.map (some W.heap.size)) (.int .i64 8) (.func (.func 78) #[] #[])).run Try.prog ((W.setCell ⟨g, 1, none⟩ (Value.int IntKind.i64 (wrap64 (s0_1 + 1)))).alloc (.map #[(⟨.int .i64 1, (.func (.func 71) #[] #[]), 0⟩ : MapEntry), (⟨.int .i64 2, (.func (.func 72) #[] #[]), 1⟩ : MapEntry), (⟨.int .i64 3, (.func (.func 73) #[] #[]), 2⟩ : MapEntry), (⟨.int .i64 4, (.func (.func 74) #[] #[]), 3⟩ : MapEntry), (⟨.int .i64 5, (.func (.func 75) #[] #[]), 4⟩ : MapEntry), (⟨.int .i64 6, (.func (.func 76) #[] #[]), 5⟩ : MapEntry), (⟨.int .i64 7, (.func (.func 77) #[] #[]), 6⟩ : MapEntry)] 7)) = .ok () ((W.setCell ⟨g, 1, none⟩ (Value.int IntKind.i64 (wrap64 (s0_1 + 1)))).alloc (.map #[(⟨.int .i64 1, (.func (.func 71) #[] #[]), 0⟩ : MapEntry), (⟨.int .i64 2, (.func (.func 72) #[] #[]), 1⟩ : MapEntry), (⟨.int .i64 3, (.func (.func 73) #[] #[]), 2⟩ : MapEntry), (⟨.int .i64 4, (.func (.func 74) #[] #[]), 3⟩ : MapEntry), (⟨.int .i64 5, (.func (.func 75) #[] #[]), 4⟩ : MapEntry), (⟨.int .i64 6, (.func (.func 76) #[] #[]), 5⟩ : MapEntry), (⟨.int .i64 7, (.func (.func 77) #[] #[]), 6⟩ : MapEntry), (⟨.int .i64 8, (.func (.func 78) #[] #[]), 7⟩ : MapEntry)] 8)) := ins_at hsz _ 7 8 _ rfl rfl
 have bx : ((W.setCell ⟨g, 1, none⟩ (Value.int IntKind.i64 (wrap64 (s0_1 + 1)))).alloc (.map #[(⟨.int .i64 1, (.func (.func 71) #[] #[]), 0⟩ : MapEntry), (⟨.int .i64 2, (.func (.func 72) #[] #[]), 1⟩ : MapEntry), (⟨.int .i64 3, (.func (.func 73) #[] #[]), 2⟩ : MapEntry), (⟨.int .i64 4, (.func (.func 74) #[] #[]), 3⟩ : MapEntry), (⟨.int .i64 5, (.func (.func 75) #[] #[]), 4⟩ : MapEntry), (⟨.int .i64 6, (.func (.func 76) #[] #[]), 5⟩ : MapEntry), (⟨.int .i64 7, (.func (.func 77) #[] #[]), 6⟩ : MapEntry), (⟨.int .i64 8, (.func (.func 78) #[] #[]), 7⟩ : MapEntry)] 8)).heap[gn]? = some (.cells #[Value.int IntKind.i64 kd, Value.string n1, Value.string n2, Value.string n3, Value.slice A4 n4.length c4] 25 (0, 0)) := blk_alloc (blk_far bn NG _) _
 have z0' := (blk_cell bx 0).trans rfl
 have z1' := (blk_cell bx 1).trans rfl
 have z2' := (blk_cell bx 2).trans rfl
 have z3' := (blk_cell bx 3).trans rfl
 have z4' := (blk_cell bx 4).trans rfl
 have BX := Aside0.mk bx
 clear bx z0 NG bn
 clear hk
 rcases hkd with rfl | rfl | rfl | rfl | rfl | rfl | rfl | rfl
 ·have ml := look_of m8 hsz 1 _ _ rfl rfl rfl
  clear hsz
  go_wp2_with fail
  refine (print_printer_literal.calls _ g s0_0 _ 1 _ _ _ A4 c4 _ r1 r2 w0 _ ?za ?zb ?zc EL.out hfa A.out).mono ?_
  case za => exact IsS74.alloc (IsS74.set_1 IW.out _) _
  case zb => exact below_alloc (below_set BW.out (IsS74.ge IW.out)) _
  case zc => exact Kd.C_below EI.out (below_alloc (below_set BW.out (IsS74.ge IW.out)) _)
  rintro e w' ⟨rfl, hi, hb, hk⟩
  go_wp2
  exact bodyPost_ret (v := .string r1) (by simp [results, Try.results54, go_sem]) rfl ⟨rfl, hi, hb, KeepBut.trans (keep_alloc (KeepBut.set_ KW.out _ _) _) hk (.inl rfl)⟩
 ·have ml := look_of m8 hsz 2 _ _ rfl rfl rfl
  clear hsz
  go_wp2_with fail
  refine (print_printer_name.calls  g s0_0 _ 2 _ _ _ A4 c4 _ r1 r2 w0 _ ?za ?zb ?zc EL.out hfa A.out).mono ?_
  case za => exact IsS74.alloc (IsS74.set_1 IW.out _) _
  case zb => exact below_alloc (below_set BW.out (IsS74.ge IW.out)) _
  case zc => exact Kd.C_below EI.out (below_alloc (below_set BW.out (IsS74.ge IW.out)) _)
  rintro e w' ⟨rfl, hi, hb, hk⟩
  go_wp2
  exact bodyPost_ret (v := .string r1) (by simp [results, Try.results54, go_sem]) rfl ⟨rfl, hi, hb, KeepBut.trans (keep_alloc (KeepBut.set_ KW.out _ _) _) hk (.inl rfl)⟩
 ·have ml := look_of m8 hsz 3 _ _ rfl rfl rfl
  clear hsz
  go_wp2_with fail
  refine (print_printer_monad.calls NXF NXC g s0_0 _ 3 _ _ _ A4 c4 _ r1 r2 w0 _ ?za ?zb ?zc EL.out hfa A.out).mono ?_
  case za => exact IsS74.alloc (IsS74.set_1 IW.out _) _
  case zb => exact below_alloc (below_set BW.out (IsS74.ge IW.out)) _
  case zc => exact Kd.C_below EI.out (below_alloc (below_set BW.out (IsS74.ge IW.out)) _)
  rintro e w' ⟨rfl, hi, hb, hk⟩
  go_wp2
  exact bodyPost_ret (v := .string r1) (by simp [results, Try.results54, go_sem]) rfl ⟨rfl, hi, hb, KeepBut.trans (keep_alloc (KeepBut.set_ KW.out _ _) _) hk (.inl rfl)⟩
 ·have ml := look_of m8 hsz 4 _ _ rfl rfl rfl
  clear hsz
  go_wp2_with fail
  refine (print_printer_dyad.calls NXF NXC g s0_0 _ 4 _ _ _ A4 c4 _ r1 r2 w0 _ ?za ?zb ?zc EL.out hfa A.out).mono ?_
  case za => exact IsS74.alloc (IsS74.set_1 IW.out _) _
  case zb => exact below_alloc (below_set BW.out (IsS74.ge IW.out)) _
  case zc => exact Kd.C_below EI.out (below_alloc (below_set BW.out (IsS74.ge IW.out)) _)
  rintro e w' ⟨rfl, hi, hb, hk⟩
  go_wp2
  exact bodyPost_ret (v := .string r1) (by simp [results, Try.results54, go_sem]) rfl ⟨rfl, hi, hb, KeepBut.trans (keep_alloc (KeepBut.set_ KW.out _ _) _) hk (.inl rfl)⟩
 ·have ml := look_of m8 hsz 5 _ _ rfl rfl rfl
  clear hsz
  go_wp2_with fail
  refine (print_printer_assign.calls NXF NXC g s0_0 _ 5 _ _ _ A4 c4 _ r1 r2 w0 _ ?za ?zb ?zc EL.out hfa A.out).mono ?_
  case za => exact IsS74.alloc (IsS74.set_1 IW.out _) _
  case zb => exact below_alloc (below_set BW.out (IsS74.ge IW.out)) _
  case zc => exact Kd.C_below EI.out (below_alloc (below_set BW.out (IsS74.ge IW.out)) _)
  rintro e w' ⟨rfl, hi, hb, hk⟩
  go_wp2
  exact bodyPost_ret (v := .string r1) (by simp [results, Try.results54, go_sem]) rfl ⟨rfl, hi, hb, KeepBut.trans (keep_alloc (KeepBut.set_ KW.out _ _) _) hk (.inl rfl)⟩
 ·have ml := look_of m8 hsz 6 _ _ rfl rfl rfl
  clear hsz
  go_wp2_with fail
  refine (print_printer_amend.calls NXF NXC g s0_0 _ 6 _ _ _ A4 c4 _ r1 r2 w0 _ ?za ?zb ?zc EL.out hfa A.out).mono ?_
  case za => exact IsS74.alloc (IsS74.set_1 IW.out _) _
  case zb => exact below_alloc (below_set BW.out (IsS74.ge IW.out)) _
  case zc => exact Kd.C_below EI.out (below_alloc (below_set BW.out (IsS74.ge IW.out)) _)
  rintro e w' ⟨rfl, hi, hb, hk⟩
  go_wp2
  exact bodyPost_ret (v := .string r1) (by simp [results, Try.results54, go_sem]) rfl ⟨rfl, hi, hb, KeepBut.trans (keep_alloc (KeepBut.set_ KW.out _ _) _) hk (.inl rfl)⟩
 ·have ml := look_of m8 hsz 7 _ _ rfl rfl rfl
  clear hsz
  go_wp2_with fail
  refine (print_printer_define.calls NXF NXC g s0_0 _ 7 _ _ _ A4 c4 _ r1 r2 w0 _ ?za ?zb ?zc EL.out hfa A.out).mono ?_
  case za => exact IsS74.alloc (IsS74.set_1 IW.out _) _
  case zb => exact below_alloc (below_set BW.out (IsS74.ge IW.out)) _
  case zc => exact Kd.C_below EI.out (below_alloc (below_set BW.out (IsS74.ge IW.out)) _)
  rintro e w' ⟨rfl, hi, hb, hk⟩
  go_wp2
  exact bodyPost_ret (v := .string r1) (by simp [results, Try.results54, go_sem]) rfl ⟨rfl, hi, hb, KeepBut.trans (keep_alloc (KeepBut.set_ KW.out _ _) _) hk (.inl rfl)⟩
 ·have ml := look_of m8 hsz 8 _ _ rfl rfl rfl
  clear hsz
  go_wp2_with fail
  refine (print_printer_index.calls NXF NXC g s0_0 _ 8 _ _ _ A4 c4 _ r1 r2 w0 _ ?za ?zb ?zc EL.out hfa A.out).mono ?_
  case za => exact IsS74.alloc (IsS74.set_1 IW.out _) _
  case zb => exact below_alloc (below_set BW.out (IsS74.ge IW.out)) _
  case zc => exact Kd.C_below EI.out (below_alloc (below_set BW.out (IsS74.ge IW.out)) _)
  rintro e w' ⟨rfl, hi, hb, hk⟩
  go_wp2
  exact bodyPost_ret (v := .string r1) (by simp [results, Try.results54, go_sem]) rfl ⟨rfl, hi, hb, KeepBut.trans (keep_alloc (KeepBut.set_ KW.out _ _) _) hk (.inl rfl)⟩
def nextK : Nat → NX_F
 | 0 => fun _ _ => none
 | K + 1 => fun l at_ => if 0 ≤ at_ ∧ at_ < (l.length : Int) then pickM (nextK K) (rd_T25 l at_).f0 l (wrap64 (at_ + 1)) (rd_T25 l at_) else none
theorem nextK_calls : ∀ K, NX_C (nextK K) := by
 intro K
 induction K with
 | zero => exact ⟨fun g s0_0 s0_1 r1 r2 w0 w hI hB h => by simp [nextK] at h⟩
 | succ K ih =>
  refine ⟨fun g s0_0 s0_1 r1 r2 w0 w hI hB h => ?_⟩
  unfold nextK at h
  by_cases hc : 0 ≤ s0_1 ∧ s0_1 < (s0_0.length : Int)
  ·rw [if_pos hc] at h
   refine next1 _ (nextK K) ih g s0_0 s0_1 r1 r2 w0 w hI hB hc.1 hc.2 rfl ?_ h
   unfold pickM at h
   repeat' split at h
   all_goals first | omega | (cases h)
  ·rw [if_neg hc] at h; cases h
def print_printer_next.f (l : List S25) (at_ : Int) : Option (ByteArray × Int) := nextK (l.length + 1) l at_
theorem print_printer_next.callsC : NX_C print_printer_next.f := ⟨fun g s0_0 s0_1 r1 r2 w0 w hI hB h => (nextK_calls (s0_0.length + 1)).out g s0_0 s0_1 r1 r2 w0 w hI hB h⟩
end Go.Proofs.Ytdelccahgchadaa.P
end
section
namespace Go.Proofs.Ytdelccahgchadaa.P
open Go.RowKit Go.Proofs.YtdelccahgchadaaW.PrintWords Go.Proofs.YtdelccahgchadaaW.PrintLast Go.Proofs.YtdelccahgchadaaW.PrintMore
set_option linter.unusedVariables false
set_option linter.unusedSimpArgs false
def print_Print.f (k : Nat) (l0 : List S25) : Option (ByteArray × Int) :=
 (tree_May.f k l0).bind fun m => if m = true then (print_printer_next.f l0 0).bind fun b => some (b.1, 0) else some (⟨#[]⟩, 1)
theorem print_Print.mono : ∀ a0 k, LeO (print_Print.f k a0) (print_Print.f (k + 1) a0) := by
 intro a0 k
 unfold print_Print.f
 repeat' first
   | (with_reducible exact tree_May.mono _ _)
   | (with_reducible exact LeO.refl _)
   | (with_reducible refine LeO.ite ?_ ?_)
   | (with_reducible refine LeO.bind ?_ (fun _ => ?_))
set_option maxRecDepth 100000 in
set_option maxHeartbeats 4000000 in
theorem print1 (k : Nat) (A0 : Option Addr) (c0 : Nat) (l0 : List S25) (w : World) (hr0 : Kd.C k25 w A0 l0.length l0) (hc0 : l0.length ≤ c0) (hm : tree_May.f k l0 = some false) :
  Calls Try.prog 39 #[.slice A0 l0.length c0] w fun e w' => e = .returned (.tuple #[.string ⟨#[]⟩, .int .i64 1]) ∧ Below w.heap.size w w' := by
 have HR := Aside0.mk hr0
 have HC := Aside0.mk hc0
 have HM := Aside0.mk hm
 clear hr0 hc0 hm
 go_enter Try.func39, Try.ntmps39
 go_wp2_with ((with_reducible refine gate_callee (f := 28) rfl ?_); refine goesL_ (some 6) rfl rfl Try.func28 (by kernel_rfl) rfl #[.slice A0 l0.length c0] rfl (by (try simp only [List.map_toArray, List.map_cons, List.map_nil]); first | done | rfl) ?_; (with_reducible refine (tree_May.calls k A0 c0 l0 false _ HR.out HC.out HM.out).mono ?_); rintro e w2 ⟨rfl, hb⟩; refine ⟨_, rfl, ?_⟩; have HB := Aside0.mk hb; clear hb)
 go_ret2
 exact ⟨rfl, HB.out⟩
set_option maxRecDepth 100000 in
set_option maxHeartbeats 4000000 in
theorem print2 (k : Nat) (A0 : Option Addr) (c0 : Nat) (l0 : List S25) (r1 : ByteArray) (q : Int) (w : World) (hr0 : Kd.C k25 w A0 l0.length l0) (hc0 : l0.length ≤ c0) (hm : tree_May.f k l0 = some true) (hn : print_printer_next.f l0 0 = some (r1, q)) :
  Calls Try.prog 39 #[.slice A0 l0.length c0] w fun e w' => e = .returned (.tuple #[.string r1, .int .i64 0]) ∧ Below w.heap.size w w' := by
 have hu := Try.underlying74
 have HR := Aside0.mk hr0
 have HC := Aside0.mk hc0
 have HM := Aside0.mk hm
 have HN := Aside0.mk hn
 clear hr0 hc0 hm hn
 go_enter Try.func39, Try.ntmps39
 go_wp2_with (first | ((with_reducible refine gate_callee (f := 28) rfl ?_); refine goesL_ (some 6) rfl rfl Try.func28 (by kernel_rfl) rfl #[.slice A0 l0.length c0] rfl (by (try simp only [List.map_toArray, List.map_cons, List.map_nil]); first | done | rfl) ?_; (with_reducible refine (tree_May.calls k A0 c0 l0 true _ HR.out HC.out HM.out).mono ?_); rintro e w2 ⟨rfl, hb⟩; refine ⟨_, rfl, ?_⟩; have HB := Aside0.mk hb; clear hb) | ((with_reducible refine gate_dst (N := 10) rfl ?_); refine box_event ?hg (N := 10) ?hd (cs := #[.slice A0 l0.length c0, .int .i64 0]) (t := 74) ?hr ?_; (case hd => rfl); (case hg => rfl); (case hr => first | (go_simp; done) | (go_simp; rfl)); intro g hg w1 hbox hb; have HI := Aside0.mk (show IsS74 w w1 g l0 0 from ⟨A0, c0, hbox, by rw [hg]; exact HB.out.size, HR.out⟩); have HD := Aside0.mk (below_step HB.out hb); clear hg hbox hb) | ((with_reducible refine gate_callee (f := 54) rfl ?_); refine goesL_ (some 12) rfl rfl Try.func54 (by kernel_rfl) rfl #[.pointer (some ⟨g, 0, none⟩)] rfl (by (try simp only [List.map_toArray, List.map_cons, List.map_nil]); first | done | rfl) ?_; (with_reducible refine (print_printer_next.callsC.out g l0 0 r1 q w _ ?side1 ?side2 HN.out).mono ?_); (case side1 => exact HI.out); (case side2 => exact HD.out); rintro e w3 ⟨rfl, hi, hb, hk⟩; refine ⟨_, rfl, ?_⟩; clear HI HD hk hi; have HD := Aside0.mk hb; clear hb))
 go_ret2
 exact ⟨rfl, HD.out⟩
theorem print_Print.calls (k : Nat) (A0 : Option Addr) (c0 : Nat) (l0 : List S25) (r1 : ByteArray) (r2 : Int) (w : World) (hr0 : Kd.C k25 w A0 l0.length l0) (hc0 : l0.length ≤ c0) (h : print_Print.f k l0 = some (r1, r2)) :
  Calls Try.prog 39 #[.slice A0 l0.length c0] w fun e w' => e = .returned (.tuple #[.string r1, .int .i64 r2]) ∧ Below w.heap.size w w' := by
 unfold print_Print.f at h
 obtain ⟨m, hm, h⟩ := Option.bind_eq_some_iff.mp h
 cases m with
 | false =>
  rw [if_neg (by decide)] at h
  injection h with h
  injection h with h1 h2
  subst h1 h2
  exact print1 k A0 c0 l0 w hr0 hc0 hm
 | true =>
  rw [if_pos rfl] at h
  obtain ⟨⟨b1, b2⟩, hn, h⟩ := Option.bind_eq_some_iff.mp h
  injection h with h
  injection h with h1 h2
  subst h1 h2
  exact print2 k A0 c0 l0 _ b2 w hr0 hc0 hm hn
end Go.Proofs.Ytdelccahgchadaa.P
end
section
namespace Go.Proofs.Ytdelccahgchadaa.P
open Go.RowKit Go.Proofs.YtdelccahgchadaaW.PrintWords Go.Proofs.YtdelccahgchadaaW.PrintLast Go.Proofs.YtdelccahgchadaaW.PrintMore
attribute [local go_sem] max2_int min2_int max_two min_two max_three min_three max_four min_four   
set_option linter.unusedVariables false
set_option linter.unusedSimpArgs false
def print_Canonical.f (k : Nat) (a0 : ByteArray) : Option (ByteArray × Int × Int) := (parse_Parse.f k a0).bind fun bt1233 => (if bt1233.2.2 = 0 then ((print_Print.f k bt1233.1).bind fun bt1238 => (some (bt1238.1, 0, 0))) else (some ((⟨#[]⟩ : ByteArray), bt1233.2.1, bt1233.2.2)))
theorem print_Canonical.mono : ∀ a0 k, LeO (print_Canonical.f k a0) (print_Canonical.f (k + 1) a0) := by
 intro a0 k
 unfold print_Canonical.f
 with_reducible repeat' first
   | exact parse_Parse.mono _ _
   | exact print_Print.mono _ _
   | exact LeO.refl _
   | exact LeO.none _
   | refine LeO.ite ?_ ?_
   | refine LeO.bind ?_ (fun _ => ?_)
set_option maxHeartbeats 8000000 in
set_option maxRecDepth 100000 in
theorem print_Canonical.calls (k : Nat) (a0 : ByteArray) (r1 : ByteArray) (r2 : Int) (r3 : Int) (w : World) (h : print_Canonical.f k a0 = some (r1, r2, r3)) :
  Calls Try.prog 38 #[.string a0] w fun e w' => e = .returned (.tuple #[.string r1, .int .i64 r2, .int .i64 r3]) ∧ Below w.heap.size w w' := by
 have HB := am (Below.refl w.heap.size w)
 unfold print_Canonical.f at h
 have H := h
 clear h
 obtain ⟨⟨t1233, t1236, t1237⟩, A2, H⟩ := bO H
 try dsimp only at H
 by_cases c3 : t1237 = 0
 ·rw [if_pos c3] at H
  have c3b0 := eT c3
  have c3b1 := nF c3
  clear c3
  obtain ⟨⟨t1238, t1239⟩, A4, H⟩ := bO H
  try dsimp only at H
  simp only [Option.some.injEq, Prod.mk.injEq] at H
  obtain ⟨rfl, rfl, rfl⟩ := H
  go_enter Try.func38, Try.ntmps38
  go_wp2_with (first | ((with_reducible refine gC 34 rfl ?_); refine gL (some 12) Try.func34 #[.string a0] ?_; (with_reducible refine (parse_Parse.calls _ _ _ _ _ _ A2.out).mono ?_); rintro e w5 ⟨v1234, rfl, ho0, hb⟩; refine ⟨_, rfl, ?_⟩; have HO1235 := am (Kd.N_lower (Kd.N_mono (ok' := fun k_ => True) ho0 (fun k_ hk_ => trivial)) (below_size (kL HB))); replace HB := am (below_step (kL HB) hb); (try clear ho0 hb); obtain ⟨Ao6, co6, eo6⟩ := Kd.N_slice HO1235.out; subst eo6) | ((with_reducible refine gC 39 rfl ?_); refine gL (some 22) Try.func39 #[.slice Ao6 t1233.length co6] ?_; (with_reducible refine (print_Print.calls _ _ _ _ _ _ _ ?side1 ?side2 A4.out).mono ?_); (case side1 => exact (Kd.N_reads' (nB HO1235)).2.2); (case side2 => exact (Kd.N_reads' HO1235.out).2.1); rintro e w7 ⟨rfl, hb⟩; refine ⟨_, rfl, ?_⟩; replace HO1235 := am (Kd.N_below (nB HO1235) hb); replace HB := am (below_step (kL HB) hb); (try clear hb)))
  go_ret3
  exact ⟨yE, (kL HB)⟩
 ·rw [if_neg c3] at H
  have c3b0 := eF c3
  have c3b1 := nT c3
  simp only [Option.some.injEq, Prod.mk.injEq] at H
  obtain ⟨rfl, rfl, rfl⟩ := H
  go_enter Try.func38, Try.ntmps38
  go_wp2_with ((with_reducible refine gC 34 rfl ?_); refine gL (some 12) Try.func34 #[.string a0] ?_; (with_reducible refine (parse_Parse.calls _ _ _ _ _ _ A2.out).mono ?_); rintro e w8 ⟨v1234, rfl, ho0, hb⟩; refine ⟨_, rfl, ?_⟩; have HO1235 := am (Kd.N_lower (Kd.N_mono (ok' := fun k_ => True) ho0 (fun k_ hk_ => trivial)) (below_size (kL HB))); replace HB := am (below_step (kL HB) hb); (try clear ho0 hb))
  go_ret3
  exact ⟨yE, (kL HB)⟩
def reredoslaw10_shown.f (k : Nat)  : Option (Bool) := (print_Canonical.f k (⟨#[32, 40, 32, 49, 43, 50, 32, 41, 32, 42, 32, 120]⟩ : ByteArray)).bind fun bt1240 => (if bt1240.2.2 = 0 then (some (bt1240.1.toList == ([40, 49, 43, 50, 41, 42, 120] : List UInt8))) else (some false))
theorem reredoslaw10_shown.mono : ∀ k, LeO (reredoslaw10_shown.f k ) (reredoslaw10_shown.f (k + 1) ) := by
 intro  k
 unfold reredoslaw10_shown.f
 with_reducible repeat' first
   | exact print_Canonical.mono _ _
   | exact LeO.refl _
   | exact LeO.none _
   | refine LeO.ite ?_ ?_
   | refine LeO.bind ?_ (fun _ => ?_)
set_option maxHeartbeats 8000000 in
set_option maxRecDepth 100000 in
theorem reredoslaw10_shown.calls (k : Nat)  (r : Bool) (w : World) (h : reredoslaw10_shown.f k  = some r) :
  Calls Try.prog 37 #[] w fun e w' => e = .returned (.bool r) ∧ Below w.heap.size w w' := by
 have HB := am (Below.refl w.heap.size w)
 unfold reredoslaw10_shown.f at h
 have H := h
 clear h
 obtain ⟨⟨t1240, t1241, t1242⟩, A1, H⟩ := bO H
 try dsimp only at H
 by_cases c2 : t1242 = 0
 ·rw [if_pos c2] at H
  have c2b0 := eT c2
  have c2b1 := nF c2
  clear c2
  obtain rfl := Option.some.inj H
  go_enter Try.func37, Try.ntmps37
  go_wp2_with ((with_reducible refine gC 38 rfl ?_); refine gL (some 5) Try.func38 #[.string (⟨#[32, 40, 32, 49, 43, 50, 32, 41, 32, 42, 32, 120]⟩ : ByteArray)] ?_; (with_reducible refine (print_Canonical.calls _ _ _ _ _ _ A1.out).mono ?_); rintro e w3 ⟨rfl, hb⟩; refine ⟨_, rfl, ?_⟩; replace HB := am (below_step (kL HB) hb); (try clear hb))
  go_ret
  exact ⟨yE, (kL HB)⟩
 ·rw [if_neg c2] at H
  have c2b0 := eF c2
  have c2b1 := nT c2
  obtain rfl := Option.some.inj H
  go_enter Try.func37, Try.ntmps37
  go_wp2_with ((with_reducible refine gC 38 rfl ?_); refine gL (some 5) Try.func38 #[.string (⟨#[32, 40, 32, 49, 43, 50, 32, 41, 32, 42, 32, 120]⟩ : ByteArray)] ?_; (with_reducible refine (print_Canonical.calls _ _ _ _ _ _ A1.out).mono ?_); rintro e w4 ⟨rfl, hb⟩; refine ⟨_, rfl, ?_⟩; replace HB := am (below_step (kL HB) hb); (try clear hb))
  go_ret
  exact ⟨yE, (kL HB)⟩
end Go.Proofs.Ytdelccahgchadaa.P
end
section
namespace Go.Proofs.Ytdelccahgchadaa.P
open Go.RowKit Go.Proofs.YtdelccahgchadaaW.PrintWords Go.Proofs.YtdelccahgchadaaW.PrintLast Go.Proofs.YtdelccahgchadaaW.PrintMore
attribute [local go_sem] max2_int min2_int max_two min_two max_three min_three max_four min_four   
set_option linter.unusedVariables false
set_option linter.unusedSimpArgs false
def reredoslaw10_PrintOnes.j0 : Nat → List (S25) → List (S25) → Bool → Bool → Option (Bool)
 | 0, _, _, _, _ => none
 | k + 1, x0, x1, x5, x18 => if x18 = true then (some x5) else ((print_Print.f k x0).bind fun bt1293 => ((print_Print.f k x1).bind fun bt1295 => (if bt1293.2 = 0 then (if bt1295.2 = 0 then (if (bt1293.1.size : Int) > 256 then (some x5) else (if (bt1295.1.size : Int) > 256 then (some x5) else (if x5 = true then ((tree_Same.f k x0 x1).bind fun t1297 => (some ((bt1293.1.toList == bt1295.1.toList) == t1297))) else (none)))) else (some x5)) else (some x5))))
def reredoslaw10_PrintOnes.f (k : Nat) (l0 : List (S25)) (l1 : List (S25)) : Option (Bool) := (reredoslaw10_shown.f k).bind fun t1290 => ((reredosref08_Few.f k l0).bind fun t1291 => (if t1291 = true then ((reredosref08_Few.f k l1).bind fun t1292 => (reredoslaw10_PrintOnes.j0 k l0 l1 t1290 (!t1292))) else (reredoslaw10_PrintOnes.j0 k l0 l1 t1290 true)))
theorem reredoslaw10_PrintOnes.mono_l : ∀ k, (∀ y0 y1 y2 y3, LeO (reredoslaw10_PrintOnes.j0 k y0 y1 y2 y3) (reredoslaw10_PrintOnes.j0 (k + 1) y0 y1 y2 y3))
 | 0 => fun _ _ _ _ r h => by simp [reredoslaw10_PrintOnes.j0] at h
 | k + 1 => by
  have ih0 := reredoslaw10_PrintOnes.mono_l k
  ·intro y0 y1 y2 y3
   unfold reredoslaw10_PrintOnes.j0
   with_reducible repeat' first
   | exact ih0 _ _ _ _
   | exact print_Print.mono _ _
   | exact reredoslaw10_shown.mono _
   | exact reredosref08_Few.mono _ _
   | exact tree_Same.mono _ _ _
   | exact LeO.refl _
   | exact LeO.none _
   | refine LeO.ite ?_ ?_
   | refine LeO.bind ?_ (fun _ => ?_)
theorem reredoslaw10_PrintOnes.mono : ∀ a0 a1 k, LeO (reredoslaw10_PrintOnes.f k a0 a1) (reredoslaw10_PrintOnes.f (k + 1) a0 a1) := by
 intro a0 a1 k
 have ih0 := reredoslaw10_PrintOnes.mono_l k
 unfold reredoslaw10_PrintOnes.f
 with_reducible repeat' first
   | exact ih0 _ _ _ _
   | exact print_Print.mono _ _
   | exact reredoslaw10_shown.mono _
   | exact reredosref08_Few.mono _ _
   | exact tree_Same.mono _ _ _
   | exact LeO.refl _
   | exact LeO.none _
   | refine LeO.ite ?_ ?_
   | refine LeO.bind ?_ (fun _ => ?_)
set_option maxHeartbeats 8000000 in
set_option maxRecDepth 100000 in
theorem reredoslaw10_PrintOnes.calls (k : Nat) (A0 : Option Addr) (c0 : Nat) (l0 : List (S25)) (A1 : Option Addr) (c1 : Nat) (l1 : List (S25)) (r : Bool) (w : World) (hr0 : Kd.C k25 w A0 l0.length l0) (hc0 : l0.length ≤ c0) (hr1 : Kd.C k25 w A1 l1.length l1) (hc1 : l1.length ≤ c1) (h : reredoslaw10_PrintOnes.f k l0 l1 = some r) :
  Calls Try.prog 16 #[.slice A0 l0.length c0, .slice A1 l1.length c1] w fun e w' => e = .returned (.bool r) ∧ Below w.heap.size w w' := by
 have HR0 := am hr0
 have HC0 := am hc0
 clear hr0 hc0
 have HR1 := am hr1
 have HC1 := am hc1
 clear hr1 hc1
 have HB := am (Below.refl w.heap.size w)
 unfold reredoslaw10_PrintOnes.f at h
 have H := h
 clear h
 obtain ⟨t1290, A3, H⟩ := bO H
 try dsimp only at H
 have HC4 := am H
 clear H
 go_enter Try.func16, Try.ntmps16
 go_upto_region 2 with (first | ((with_reducible refine gC 37 rfl ?_); refine gL (some 10) Try.func37 #[] ?_; (with_reducible refine (reredoslaw10_shown.calls _ _ _ A3.out).mono ?_); rintro e w5 ⟨rfl, hb⟩; refine ⟨_, rfl, ?_⟩; replace HB := am (below_step (kL HB) hb); (try clear hb)))
 (try simp only [Act.put, zT, z0, zS])
 go_cut [18] (fun v18 wc => ∃ (kq : Nat) (x18_3 : Bool), v18 = .bool x18_3 ∧ Aside0 (reredoslaw10_PrintOnes.j0 kq l0 l1 t1290 x18_3 = some r) ∧ Aside0 (kq ≤ k) ∧ Aside0 (Below w.heap.size w wc))
 case first =>
  have H := HC4.out
  clear HC4
  obtain ⟨t1291, A6, H⟩ := bO H
  try dsimp only at H
  by_cases c7 : t1291 = true
  ·subst c7
   rw [if_pos rfl] at H
   obtain ⟨t1292, A8, H⟩ := bO H
   try dsimp only at H
   have H' := am H
   clear H
   go_wp2_with (first | ((with_reducible refine gC 18 rfl ?_); refine gL (some 12) Try.func18 #[.slice A0 l0.length c0] ?_; (with_reducible refine (reredosref08_Few.calls _ _ _ _ _ _ ?side1 ?side2 A6.out).mono ?_); (case side1 => exact Kd.C_below HR0.out (kL HB)); (case side2 => exact HC0.out); rintro e w' ⟨rfl, ⟨nd, rfl⟩⟩; refine ⟨_, rfl, ?_⟩) | (go_at_call 18; (with_reducible refine (reredosref08_Few.calls _ _ _ _ _ _ ?side1 ?side2 A8.out).mono ?_); (case side1 => repeat (first | exact (Kd.C_below HR1.out (kL HB)) | (with_reducible refine Kd.C_alloc ?_ _) | (with_reducible refine Kd.C_drewN ?_ _) | (with_reducible refine Kd.C_drew ?_))); (case side2 => exact HC1.out); rintro e w' ⟨rfl, ⟨nd, rfl⟩⟩))
   go_meet
   case rel => exact ⟨_, (!t1292), yS, H', ⟨yO⟩, ⟨(kL HB)⟩⟩
  ·replace c7 := Bool.eq_false_iff.mpr c7
   subst c7
   rw [if_neg (show ¬ (false = true) by decide)] at H
   have H' := am H
   clear H
   go_wp2_with ((with_reducible refine gC 18 rfl ?_); refine gL (some 12) Try.func18 #[.slice A0 l0.length c0] ?_; (with_reducible refine (reredosref08_Few.calls _ _ _ _ _ _ ?side1 ?side2 A6.out).mono ?_); (case side1 => exact Kd.C_below HR0.out (kL HB)); (case side2 => exact HC0.out); rintro e w' ⟨rfl, ⟨nd, rfl⟩⟩; refine ⟨_, rfl, ?_⟩)
   go_meet
   case rel => exact ⟨_, (true), yS, H', ⟨yO⟩, ⟨(kL HB)⟩⟩
 case rest =>
  clear HC4
  try clear c1
  try clear p2
  try clear c3
  try clear c7
  obtain ⟨kq, x18_3, rfl, HA, HJ3, HB⟩ := hcut
  cases kq with
  | zero => exact absurd HA.out (by simp [reredoslaw10_PrintOnes.j0])
  | succ kj3 =>
   have H := HA.out
   clear HA
   simp only [reredoslaw10_PrintOnes.j0] at H
   by_cases c9 : x18_3 = true
   ·subst c9
    rw [if_pos rfl] at H
    obtain rfl := Option.some.inj H
    go_wp2
    go_ret
    exact ⟨yE, (kL HB)⟩
   ·replace c9 := Bool.eq_false_iff.mpr c9
    subst c9
    rw [if_neg (show ¬ (false = true) by decide)] at H
    obtain ⟨⟨t1293, t1294⟩, A10, H⟩ := bO H
    try dsimp only at H
    obtain ⟨⟨t1295, t1296⟩, A11, H⟩ := bO H
    try dsimp only at H
    by_cases c12 : t1294 = 0
    ·rw [if_pos c12] at H
     have c12b0 := eT c12
     have c12b1 := nF c12
     clear c12
     by_cases c13 : t1296 = 0
     ·rw [if_pos c13] at H
      have c13b0 := eT c13
      have c13b1 := nF c13
      clear c13
      by_cases c14 : (t1293.size : Int) > 256
      ·rw [if_pos c14] at H
       have c14b0 : decide (256 < (t1293.size : Int)) = true := decide_eq_true c14
       have c14b1 : decide (256 < t1293.size) = true := decide_eq_true (by omega)
       clear c14
       obtain rfl := Option.some.inj H
       go_wp2_with (first | ((with_reducible refine gC 39 rfl ?_); refine gL (some 22) Try.func39 #[.slice A0 l0.length c0] ?_; (with_reducible refine (print_Print.calls _ _ _ _ _ _ _ ?side1 ?side2 A10.out).mono ?_); (case side1 => exact Kd.C_below HR0.out (kL HB)); (case side2 => exact HC0.out); rintro e w15 ⟨rfl, hb⟩; refine ⟨_, rfl, ?_⟩; replace HB := am (below_step (kL HB) hb); (try clear hb)) | ((with_reducible refine gC 39 rfl ?_); refine gL (some 27) Try.func39 #[.slice A1 l1.length c1] ?_; (with_reducible refine (print_Print.calls _ _ _ _ _ _ _ ?side1 ?side2 A11.out).mono ?_); (case side1 => exact Kd.C_below HR1.out (kL HB)); (case side2 => exact HC1.out); rintro e w16 ⟨rfl, hb⟩; refine ⟨_, rfl, ?_⟩; replace HB := am (below_step (kL HB) hb); (try clear hb)))
       go_ret
       exact ⟨yE, (kL HB)⟩
      ·rw [if_neg c14] at H
       have c14b0 : decide (256 < (t1293.size : Int)) = false := decide_eq_false c14
       have c14b1 : decide (256 < t1293.size) = false := decide_eq_false (by omega)
       clear c14
       by_cases c17 : (t1295.size : Int) > 256
       ·rw [if_pos c17] at H
        have c17b0 : decide (256 < (t1295.size : Int)) = true := decide_eq_true c17
        have c17b1 : decide (256 < t1295.size) = true := decide_eq_true (by omega)
        clear c17
        obtain rfl := Option.some.inj H
        go_wp2_with (first | ((with_reducible refine gC 39 rfl ?_); refine gL (some 22) Try.func39 #[.slice A0 l0.length c0] ?_; (with_reducible refine (print_Print.calls _ _ _ _ _ _ _ ?side1 ?side2 A10.out).mono ?_); (case side1 => exact Kd.C_below HR0.out (kL HB)); (case side2 => exact HC0.out); rintro e w18 ⟨rfl, hb⟩; refine ⟨_, rfl, ?_⟩; replace HB := am (below_step (kL HB) hb); (try clear hb)) | ((with_reducible refine gC 39 rfl ?_); refine gL (some 27) Try.func39 #[.slice A1 l1.length c1] ?_; (with_reducible refine (print_Print.calls _ _ _ _ _ _ _ ?side1 ?side2 A11.out).mono ?_); (case side1 => exact Kd.C_below HR1.out (kL HB)); (case side2 => exact HC1.out); rintro e w19 ⟨rfl, hb⟩; refine ⟨_, rfl, ?_⟩; replace HB := am (below_step (kL HB) hb); (try clear hb)))
        go_ret
        exact ⟨yE, (kL HB)⟩
       ·rw [if_neg c17] at H
        have c17b0 : decide (256 < (t1295.size : Int)) = false := decide_eq_false c17
        have c17b1 : decide (256 < t1295.size) = false := decide_eq_false (by omega)
        clear c17
        by_cases c20 : t1290 = true
        ·subst c20
         rw [if_pos rfl] at H
         obtain ⟨t1297, A21, H⟩ := bO H
         try dsimp only at H
         obtain rfl := Option.some.inj H
         go_wp2_with (first | ((with_reducible refine gC 39 rfl ?_); refine gL (some 22) Try.func39 #[.slice A0 l0.length c0] ?_; (with_reducible refine (print_Print.calls _ _ _ _ _ _ _ ?side1 ?side2 A10.out).mono ?_); (case side1 => exact Kd.C_below HR0.out (kL HB)); (case side2 => exact HC0.out); rintro e w22 ⟨rfl, hb⟩; refine ⟨_, rfl, ?_⟩; replace HB := am (below_step (kL HB) hb); (try clear hb)) | ((with_reducible refine gC 39 rfl ?_); refine gL (some 27) Try.func39 #[.slice A1 l1.length c1] ?_; (with_reducible refine (print_Print.calls _ _ _ _ _ _ _ ?side1 ?side2 A11.out).mono ?_); (case side1 => exact Kd.C_below HR1.out (kL HB)); (case side2 => exact HC1.out); rintro e w23 ⟨rfl, hb⟩; refine ⟨_, rfl, ?_⟩; replace HB := am (below_step (kL HB) hb); (try clear hb)) | (go_at_call 30; (with_reducible refine (tree_Same.calls _ _ _ _ _ _ _ _ _ ?side1 ?side2 ?side3 ?side4 A21.out).mono ?_); (case side1 => exact Kd.C_below HR0.out (kL HB)); (case side2 => exact HC0.out); (case side3 => exact Kd.C_below HR1.out (kL HB)); (case side4 => exact HC1.out); rintro e w24 ⟨rfl, hb⟩; replace HB := am (below_step (kL HB) hb); (try clear hb)))
         go_ret
         exact ⟨yE, (kL HB)⟩
        ·replace c20 := Bool.eq_false_iff.mpr c20
         subst c20
         rw [if_neg (show ¬ (false = true) by decide)] at H
         exact absurd H (by simp)
     ·rw [if_neg c13] at H
      have c13b0 := eF c13
      have c13b1 := nT c13
      obtain rfl := Option.some.inj H
      go_wp2_with (first | ((with_reducible refine gC 39 rfl ?_); refine gL (some 22) Try.func39 #[.slice A0 l0.length c0] ?_; (with_reducible refine (print_Print.calls _ _ _ _ _ _ _ ?side1 ?side2 A10.out).mono ?_); (case side1 => exact Kd.C_below HR0.out (kL HB)); (case side2 => exact HC0.out); rintro e w25 ⟨rfl, hb⟩; refine ⟨_, rfl, ?_⟩; replace HB := am (below_step (kL HB) hb); (try clear hb)) | ((with_reducible refine gC 39 rfl ?_); refine gL (some 27) Try.func39 #[.slice A1 l1.length c1] ?_; (with_reducible refine (print_Print.calls _ _ _ _ _ _ _ ?side1 ?side2 A11.out).mono ?_); (case side1 => exact Kd.C_below HR1.out (kL HB)); (case side2 => exact HC1.out); rintro e w26 ⟨rfl, hb⟩; refine ⟨_, rfl, ?_⟩; replace HB := am (below_step (kL HB) hb); (try clear hb)))
      go_ret
      exact ⟨yE, (kL HB)⟩
    ·rw [if_neg c12] at H
     have c12b0 := eF c12
     have c12b1 := nT c12
     obtain rfl := Option.some.inj H
     go_wp2_with (first | ((with_reducible refine gC 39 rfl ?_); refine gL (some 22) Try.func39 #[.slice A0 l0.length c0] ?_; (with_reducible refine (print_Print.calls _ _ _ _ _ _ _ ?side1 ?side2 A10.out).mono ?_); (case side1 => exact Kd.C_below HR0.out (kL HB)); (case side2 => exact HC0.out); rintro e w27 ⟨rfl, hb⟩; refine ⟨_, rfl, ?_⟩; replace HB := am (below_step (kL HB) hb); (try clear hb)) | ((with_reducible refine gC 39 rfl ?_); refine gL (some 27) Try.func39 #[.slice A1 l1.length c1] ?_; (with_reducible refine (print_Print.calls _ _ _ _ _ _ _ ?side1 ?side2 A11.out).mono ?_); (case side1 => exact Kd.C_below HR1.out (kL HB)); (case side2 => exact HC1.out); rintro e w28 ⟨rfl, hb⟩; refine ⟨_, rfl, ?_⟩; replace HB := am (below_step (kL HB) hb); (try clear hb)))
     go_ret
     exact ⟨yE, (kL HB)⟩
def reredoslaw10_PrintOnes.Pure : Prop := ∀ (l0 : List (S25)) (l1 : List (S25)), (l0.length ≤ maxLen ∧ ∀ e_ ∈ l0, (((Lit.int .i64 e_.f0).wf = true) ∧ (e_.f1.size ≤ maxLen) ∧ (e_.f2.size ≤ maxLen) ∧ (e_.f3.size ≤ maxLen) ∧ (e_.f4.length ≤ maxLen ∧ ∀ ee_ ∈ e_.f4, (ee_.size ≤ maxLen)))) → (l1.length ≤ maxLen ∧ ∀ e_ ∈ l1, (((Lit.int .i64 e_.f0).wf = true) ∧ (e_.f1.size ≤ maxLen) ∧ (e_.f2.size ≤ maxLen) ∧ (e_.f3.size ≤ maxLen) ∧ (e_.f4.length ≤ maxLen ∧ ∀ ee_ ∈ e_.f4, (ee_.size ≤ maxLen)))) → ∃ k, reredoslaw10_PrintOnes.f k l0 l1 = some true
end Go.Proofs.Ytdelccahgchadaa.P
end
section
namespace Go.Proofs.Ytdelccahgchadaa
open Go.ChangeShapes Go.WideShapes Go.ChangeAt Go.RowKit Go.Deep Go.Proofs.YtdelccahgchadaaW.PrintWords Go.Proofs.YtdelccahgchadaaW.PrintLast Go.Proofs.YtdelccahgchadaaW.PrintMore
set_option linter.unusedVariables false
def Opens {H : Type} (enc : TypeId × Value → H) (P : Program) (w : World) (t : TypeId) {α : Type} (K : Kd α) (wf : α → Prop) : Prop :=
 ∀ (spare : Nat → Bool) (held : Bool) (fuel : Nat) (cs : List Value) (x : DataW H × List MemPlace), DataW.trod enc P w 0 spare held fuel t cs = some x → ∃ a, K.K w a cs ∧ wf a
section
variable {H : Type} {enc : TypeId × Value → H} {P : Program} {w : World}
theorem opens_int {t : TypeId} {k : IntKind} (hu : P.underlying t = some (.int k)) : Opens enc P w t (Kd.int k) (fun n => (Lit.int k n).wf = true) := fun spare held fuel cs x h => by
 obtain ⟨n, rfl, _, hw⟩ := DataW.trod_int hu h
 exact ⟨n, rfl, hw⟩
theorem opens_string {t : TypeId} (hu : P.underlying t = some .string) : Opens enc P w t Kd.string (fun s => s.size ≤ maxLen) := fun spare held fuel cs x h => by
 obtain ⟨n, rfl, _, hw⟩ := DataW.trod_string hu h
 exact ⟨n, rfl, hw⟩
theorem choose_list {α : Type} (n : Nat) (p : Nat → α → Prop) (h : ∀ i, i < n → ∃ a, p i a) : ∃ l : List α, l.length = n ∧ ∀ i a, l[i]? = some a → p i a := by
 induction n with
 | zero => exact ⟨[], rfl, fun i a h => by simp at h⟩
 | succ n ih =>
  obtain ⟨l, hl, hp⟩ := ih fun i hi => h i (by omega)
  obtain ⟨a, ha⟩ := h n (by omega)
  refine ⟨l ++ [a], by simp [hl], fun i b hb => ?_⟩
  rcases Nat.lt_or_ge i l.length with hi | hi
  ·rw [List.getElem?_append_left hi] at hb
   exact hp i b hb
  ·have hi' : i = l.length := by
    have := (List.getElem?_eq_some_iff.1 hb).1
    simp at this
    omega
   subst hi'
   simp at hb
   subst hb
   rw [hl]
   exact ha
theorem opens_slice {t e : TypeId} {α : Type} {K : Kd α} {wf : α → Prop} (hu : P.underlying t = some (.slice e)) (hsz : P.cellsOf e = K.sz) (h : Opens enc P w e K wf) :
  Opens enc P w t (Kd.slice e K) (fun l => l.length ≤ maxLen ∧ ∀ x ∈ l, wf x) := fun spare held fuel cs x hx => by
 rcases open_slice hu hx with ⟨rfl, _⟩ | ⟨a, len, cap, m, n, D, Pl, rfl, _, hl, hm, hmm, _, hel⟩
 ·exact ⟨[], ⟨none, 0, rfl, Nat.le_refl _, ⟨rfl, by simp, fun h0 => absurd h0 (Nat.lt_irrefl 0)⟩⟩, by simp, fun _ hx => by simp at hx⟩
 ·have hlm : len ≤ m := by rw [hmm]; split <;> omega
  obtain ⟨l, hll, hp⟩ := choose_list len (fun i x => ∃ cs', w.cells? 0 (a.add (i * P.cellsOf e)) (P.cellsOf e) = some cs' ∧ K.K w x cs' ∧ wf x) fun i hi => by
   obtain ⟨cs', h1, h2⟩ := hel i (by omega)
   obtain ⟨x, h3, h4⟩ := h spare held n cs' _ h2
   exact ⟨x, cs', h1, h3, h4⟩
  subst hll
  refine ⟨l, ⟨some a, cap, rfl, hl, ⟨rfl, by unfold maxLen at hm; omega, fun _ => ⟨a, rfl, fun j p hj => ?_⟩⟩⟩, Nat.le_trans hl hm, fun x hx => ?_⟩
  ·obtain ⟨cs', h1, h2, _⟩ := hp j p hj
   refine ⟨cs', K.K_len h2, h2, fun i u hu => ?_⟩
   have hc := World.cells?_some h1
   have hi : i < P.cellsOf e := by
    have h5 := (List.getElem?_eq_some_iff.1 hu).1
    rw [K.K_len h2, ← hsz] at h5
    exact h5
   have := hc.2.2 i hi
   rw [Go.Deep.add_add, hsz] at this
   rw [this]
   exact hu
  ·obtain ⟨i, hi⟩ := List.getElem?_of_mem hx
   obtain ⟨_, _, _, h4⟩ := hp i x hi
   exact h4
def OpensF {H : Type} (enc : TypeId × Value → H) (P : Program) (w : World) (fs : List Field) (off : Nat) {α : Type} (K : Kd α) (wf : α → Prop) : Prop :=
 ∀ (spare : Nat → Bool) (held : Bool) (fuel : Nat) (cs : List Value), cs.length = off + K.sz →
  (∀ f ∈ fs, ∃ x, DataW.trod enc P w 0 spare held fuel f.type ((cs.drop f.offset).take (P.cellsOf f.type)) = some x) → ∃ a, K.K w a (cs.drop off) ∧ wf a
theorem opensF_last {f : Field} {off : Nat} {α : Type} {K : Kd α} {wf : α → Prop} (hoff : f.offset = off) (hsz : P.cellsOf f.type = K.sz) (h : Opens enc P w f.type K wf) : OpensF enc P w [f] off K wf := fun spare held fuel cs hl hf => by
 obtain ⟨x, hx⟩ := hf f (List.mem_singleton.2 rfl)
 obtain ⟨a, h1, h2⟩ := h _ _ _ _ _ hx
 refine ⟨a, ?_, h2⟩
 rw [hoff, hsz, List.take_of_length_le (by rw [List.length_drop]; omega)] at h1
 exact h1
theorem opensF_cons {f : Field} {fs : List Field} {off : Nat} {α β : Type} {K : Kd α} {K2 : Kd β} {wf : α → Prop} {wf2 : β → Prop} (hoff : f.offset = off) (hsz : P.cellsOf f.type = K.sz) (h : Opens enc P w f.type K wf) (hr : OpensF enc P w fs (off + K.sz) K2 wf2) :
  OpensF enc P w (f :: fs) off (Kd.pair K K2) (fun a => wf a.1 ∧ wf2 a.2) := fun spare held fuel cs hl hf => by
 obtain ⟨x, hx⟩ := hf f List.mem_cons_self
 obtain ⟨a, h1, h2⟩ := h _ _ _ _ _ hx
 obtain ⟨b, h3, h4⟩ := hr spare held fuel cs (by rw [hl]; show off + (K.sz + K2.sz) = _; omega) (fun g hg => hf g (List.mem_cons_of_mem _ hg))
 refine ⟨(a, b), ⟨_, _, ?_, h1, h3⟩, h2, h4⟩
 rw [hoff, hsz, ← List.drop_drop, List.take_append_drop]
theorem opens_struct {t : TypeId} {fs : Array Field} {α : Type} {K : Kd α} {wf : α → Prop} (hu : P.underlying t = some (.struct fs)) (hc : P.cellsOf t = K.sz) (h : OpensF enc P w fs.toList 0 K wf) : Opens enc P w t K wf := fun spare held fuel cs x hx => by
 obtain ⟨xs, n, _, _, hl, hn, hel⟩ := DataW.trod_struct hu hx
 refine h spare held n cs (by rw [hl, hc]; omega) (fun f hf => ?_)
 obtain ⟨i, hi⟩ := List.getElem?_of_mem hf
 have hi' : fs[i]? = some f := by simpa using hi
 have hlt : i < xs.length := by
  rw [hn]
  exact (Array.getElem?_eq_some_iff.1 hi').1
 exact ⟨_, (hel i f hi').trans (List.getElem?_eq_getElem hlt)⟩
theorem opens_iso {t : TypeId} {α β : Type} {K : Kd α} {wf : α → Prop} (f : β → α) (g : α → β) (hfg : ∀ a, f (g a) = a) (h : Opens enc P w t K wf) : Opens enc P w t (Kd.iso K f) (fun b => wf (f b)) := fun spare held fuel cs x hx => by
 obtain ⟨a, h1, h2⟩ := h _ _ _ _ _ hx
 exact ⟨g a, by show K.K w (f (g a)) cs; rw [hfg]; exact h1, by show wf (f (g a)); rw [hfg]; exact h2⟩
theorem arg_slice {t e : TypeId} {α : Type} {K : Kd α} {wf : List α → Prop} {r : Reach} {b0 : Nat} {v : Value} {d : DataW H} {p : List MemPlace} {spare : Nat → Bool} {held : Bool} (hu : P.underlying t = some (.slice e)) (ho : Opens enc P w t (Kd.slice e K) wf)
  (hv : Value.okWide P w r b0 t v) (h : DataW.Trod enc P w 0 spare held t v d p) : ∃ A c l, v = .slice A l.length c ∧ l.length ≤ c ∧ K.C w A l.length l ∧ wf l := by
 obtain ⟨a, len, cap, rfl⟩ := okWide_slice hu hv
 obtain ⟨fuel, hf⟩ := h
 obtain ⟨l, ⟨A, c, he, hl, hc⟩, hw⟩ := ho _ _ _ _ _ hf
 simp only [Value.cells, List.cons.injEq, and_true] at he
 exact ⟨A, c, l, he, hl, hc, hw⟩
theorem trod_places {t : TypeId} {v : Value} {d : DataW H} {p : List MemPlace} {spare : Nat → Bool} {held : Bool} (h : DataW.Trod enc P w 0 spare held t v d p) : ∀ x ∈ p, x.block < w.heap.size := by
 obtain ⟨m, hm⟩ := h
 exact DataW.trod_lt m _ _ _ hm
end
end Go.Proofs.Ytdelccahgchadaa
end
section
namespace Go.Proofs.Ytdelccahgchadaa
open Go.RowKit Go.Lib Go.Proofs.Ytdelccahgchadaa.P Go.Proofs.YtdelccahgchadaaW.PrintWords Go.Proofs.YtdelccahgchadaaW.PrintMore
set_option linter.unusedVariables false
def stopB (m : List Tt) : Prop := m = [] ∨ ∃ t r, m = t :: r ∧ t.f0 = 6 ∧ (t.f1 = ⟨#[41]⟩ ∨ t.f1 = ⟨#[93]⟩ ∨ t.f1 = ⟨#[125]⟩ ∨ t.f1 = ⟨#[58]⟩)
def lift (g : Tt → Tt) (m : List Tt) (st : PSt) : PSt := (st.1.map g ++ m, st.2)
def OkL (m : List Tt) (st : PSt) : Prop := st.1 ≠ [] ∨ m = [] ∨ (stopB m ∧ st.2 = false)
def Plain (g : Tt → Tt) : Prop := ∀ t, (g t).f0 = t.f0 ∧ (g t).f1 = t.f1
theorem OkL.taken {m : List Tt} {a b : PSt} (ht : Taken a b) (h : OkL m b) : OkL m a := by
 rcases h with h | h | h
 ·left
  intro e
  have := ht.1.length_le
  rw [e] at this
  exact h (List.length_eq_zero_iff.1 (by simpa using this))
 ·exact .inr (.inl h)
 ·refine .inr (.inr ⟨h.1, ?_⟩)
  cases hb : a.2 with
  | false => rfl
  | true => have := ht.2 hb; rw [h.2] at this; cases this
theorem lift_taken (g : Tt → Tt) (m : List Tt) {a b : PSt} (h : Taken a b) : Taken (lift g m a) (lift g m b) := by
 refine ⟨?_, h.2⟩
 obtain ⟨p, hp⟩ := h.1
 refine ⟨p.map g, ?_⟩
 show p.map g ++ (b.1.map g ++ m) = a.1.map g ++ m
 rw [← List.append_assoc, ← List.map_append, hp]
section
variable {g : Tt → Tt} (hg : Plain g) {m : List Tt}
include hg
theorem lift_cases {st : PSt} (h : OkL m st) : (kd0 (lift g m st) = kd0 st ∧ tx0 (lift g m st) = tx0 st) ∨
  (st.1 = [] ∧ kd0 st = 0 ∧ m ≠ [] ∧ kd0 (lift g m st) = 6 ∧ (tx0 (lift g m st) = ⟨#[41]⟩ ∨ tx0 (lift g m st) = ⟨#[93]⟩ ∨ tx0 (lift g m st) = ⟨#[125]⟩ ∨ tx0 (lift g m st) = ⟨#[58]⟩)) := by
 obtain ⟨l, b⟩ := st
 cases b with
 | true => left; exact ⟨rfl, rfl⟩
 | false =>
  cases l with
  | cons t r => left; exact ⟨(hg t).1, (hg t).2⟩
  | nil =>
   rcases h with h | h | h
   ·exact absurd rfl h
   ·subst h; left; exact ⟨rfl, rfl⟩
   ·rcases h.1 with h | ⟨t, r, h1, h2, h3⟩
    ·subst h; left; exact ⟨rfl, rfl⟩
    ·subst h1
     right
     exact ⟨rfl, rfl, by simp, h2, h3⟩
theorem kd_lift {st : PSt} (h : OkL m st) (c : Int) (h0 : c ≠ 0) (h6 : c ≠ 6) : kd0 (lift g m st) = c ↔ kd0 st = c := by
 rcases lift_cases hg h with e | e
 ·rw [e.1]
 ·rw [e.2.1, e.2.2.2.1]
  exact ⟨fun x => absurd x.symm h6, fun x => absurd x.symm h0⟩
theorem isM_lift {st : PSt} (h : OkL m st) (c : UInt8) (hc : c ≠ 41 ∧ c ≠ 93 ∧ c ≠ 125 ∧ c ≠ 58) : isM c (lift g m st) = isM c st := by
 rcases lift_cases hg h with e | e
 ·unfold isM; rw [e.1, e.2]
 ·have h1 : isM c st = false := by unfold isM; rw [e.2.1]; rfl
  rw [h1]
  unfold isM
  rw [e.2.2.2.1]
  have key : (L (tx0 (lift g m st)) == [c]) = false := by
   rw [beq_eq_false_iff_ne]
   rcases e.2.2.2.2 with e | e | e | e <;> rw [e] <;> intro x
   ·exact hc.1 (by injection x with x; exact x.symm)
   ·exact hc.2.1 (by injection x with x; exact x.symm)
   ·exact hc.2.2.1 (by injection x with x; exact x.symm)
   ·exact hc.2.2.2 (by injection x with x; exact x.symm)
  rw [key, Bool.and_false]
theorem tx_lift {st : PSt} (h : kd0 st ≠ 0) : tx0 (lift g m st) = tx0 st ∧ kd0 (lift g m st) = kd0 st ∧ next (lift g m st) = lift g m (next st) := by
 obtain ⟨hb, t, r, h1, _, _⟩ := kd0_pos h
 obtain ⟨l, b⟩ := st
 simp only at hb h1
 subst hb h1
 exact ⟨(hg t).2, (hg t).1, rfl⟩
theorem verbal_lift {st : PSt} (h : OkL m st) : verbal (lift g m st) = verbal st := by
 unfold verbal
 rw [isM_lift hg h 123 (by decide)]
 have e4 : (kd0 (lift g m st) == 4) = (kd0 st == 4) := by rw [Bool.eq_iff_iff, beq_iff_eq, beq_iff_eq]; exact kd_lift hg h 4 (by decide) (by decide)
 have e3 : (kd0 (lift g m st) == 3) = (kd0 st == 3) := by rw [Bool.eq_iff_iff, beq_iff_eq, beq_iff_eq]; exact kd_lift hg h 3 (by decide) (by decide)
 rw [e4, e3]
theorem mark_lift {c : UInt8} {st : PSt} (h : OkL m (markS c st)) : markS c (lift g m st) = lift g m (markS c st) := by
 have h0 : OkL m st := h.taken (markS_taken c st)
 rcases lift_cases hg h0 with e | e
 ·have hi : isM c (lift g m st) = isM c st := by unfold isM; rw [e.1, e.2]
  unfold markS
  rw [hi]
  by_cases hm : isM c st = true
  ·rw [if_pos hm, if_pos hm]; exact (tx_lift hg (by rw [isM_kd hm]; decide)).2.2
  ·rw [if_neg hm, if_neg hm]; rfl
 ·have hi : isM c st = false := by unfold isM; rw [e.2.1]; rfl
  unfold markS at h
  rw [hi, if_neg (by decide)] at h
  rcases h with h | h | h
  ·exact absurd e.1 h
  ·exact absurd h e.2.2.1
  ·exact absurd h.2 (fun e => by cases e)
theorem lit_lift : ∀ (l : List Tt) (acc : List ByteArray), OkL m (litS acc l).2 → litS acc (l.map g ++ m) = ((litS acc l).1, lift g m (litS acc l).2) := by
 intro l
 induction l with
 | nil =>
  intro acc h
  rcases h with h | h | h
  ·exact absurd rfl h
  ·subst h; rfl
  ·rcases h.1 with h | ⟨t, r, h1, h2, h3⟩
   ·subst h; rfl
   ·subst h1
    simp only [List.map_nil, List.nil_append, litS, lift]
    rw [if_neg (by rw [h2]; decide)]
 | cons t r ih =>
  intro acc h
  simp only [List.map_cons, List.cons_append, litS, (hg t).1, (hg t).2] at h ⊢
  by_cases h1 : t.f0 = 1
  ·rw [if_pos h1] at h ⊢
   rw [if_pos h1]
   by_cases h2 : acc.length = 100
   ·rw [if_pos h2, if_pos h2]; rfl
   ·rw [if_neg h2] at h ⊢
    rw [if_neg h2]
    exact ih _ h
  ·rw [if_neg h1, if_neg h1]; rfl
end
theorem verbS_next (E : ES) (n : Nat) (hE : GoodE E n) (kind : Int) (advs : Bs) (st : PSt) (hv : verbal st = true) (hm : meas st < n + 1) : Taken (next st) (verbS E kind advs st).2.2 := by
 have hk : kd0 st ≠ 0 := by rcases verbal_kd hv with h | h | h <;> rw [h] <;> decide
 obtain ⟨hn, hb, hms⟩ := meas_next hk hm
 unfold verbS
 obtain ⟨b, hbd⟩ : ∃ b : List Nn × PSt, b = (if tx0 st = ⟨#[123]⟩ then ((E (next st)).1, markS 125 (E (next st)).2) else ([], next st)) := ⟨_, rfl⟩
 simp only []
 rw [← hbd]
 have hb2 : Taken (next st) b.2 := by
  rw [hbd]
  by_cases h : tx0 st = ⟨#[123]⟩
  ·rw [if_pos h]; exact (hE _ hn).taken.trans (markS_taken 125 (E (next st)).2)
  ·rw [if_neg h]; exact Taken.refl _
 by_cases h5 : kd0 b.2 = 5
 ·rw [if_pos h5]
  simp only []
  by_cases ha : advOk advs (tx0 b.2) = true
  ·rw [if_pos ha]; exact hb2.trans (kd0_taken (by rw [h5]; decide)).1
  ·rw [if_neg ha]; exact hb2.trans ⟨List.suffix_refl _, fun _ => rfl⟩
 ·rw [if_neg h5]; exact hb2
def SimE (g : Tt → Tt) (m : List Tt) (E E' : ES) (n n' : Nat) : Prop := ∀ st, meas st < n → meas (lift g m st) < n' → OkL m (E st).2 → E' (lift g m st) = ((E st).1, lift g m (E st).2)
theorem exprV_lift {g : Tt → Tt} {m : List Tt} {E E' : ES} {n n' : Nat} (hS : SimE g m E E' n n') (v : Nn × List Nn × PSt) (left : List Nn) (hm : meas v.2.2 < n) (hm' : meas (lift g m v.2.2) < n') (ho : OkL m (exprV E v left).2) :
  exprV E' (v.1, v.2.1, lift g m v.2.2) left = ((exprV E v left).1, lift g m (exprV E v left).2) := by
 unfold exprV at ho ⊢
 simp only [] at ho ⊢
 rw [hS _ hm hm' ho]
theorem next_lift_meas {g : Tt → Tt} (hg : Plain g) {m : List Tt} {st : PSt} {n : Nat} (h : kd0 st ≠ 0) (hm : meas (lift g m st) < n + 1) : meas (lift g m (next st)) < n := by
 have e := tx_lift hg (m := m) h
 rw [← e.2.2]
 exact (meas_next (by rw [e.2.1]; exact h) hm).1
section
variable {g : Tt → Tt} (hg : Plain g) {m : List Tt} {E E' : ES} {n n' : Nat} (hE : GoodE E n) (hS : SimE g m E E' n n')
include hg hE hS
theorem verb_lift (kind : Int) (advs : Bs) (st : PSt) (hv : verbal st = true) (hm : meas st < n + 1) (hm' : meas (lift g m st) < n' + 1) (ho : OkL m (verbS E kind advs st).2.2) :
  verbS E' kind advs (lift g m st) = ((verbS E kind advs st).1, (verbS E kind advs st).2.1, lift g m (verbS E kind advs st).2.2) := by
 have _ := hE
 have hk : kd0 st ≠ 0 := by rcases verbal_kd hv with h | h | h <;> rw [h] <;> decide
 obtain ⟨hn, hb, hms⟩ := meas_next hk hm
 have hn' := next_lift_meas hg (m := m) hk hm'
 obtain ⟨t1, t2, t3⟩ := tx_lift hg (m := m) hk
 unfold verbS at ho ⊢
 rw [t1, t3]
 obtain ⟨b, hbd⟩ : ∃ b : List Nn × PSt, b = (if tx0 st = ⟨#[123]⟩ then ((E (next st)).1, markS 125 (E (next st)).2) else ([], next st)) := ⟨_, rfl⟩
 simp only [] at ho ⊢
 rw [← hbd] at ho ⊢
 have hob : OkL m b.2 := by
  by_cases h5 : kd0 b.2 = 5
  ·rw [if_pos h5] at ho
   simp only [] at ho
   by_cases ha : advOk advs (tx0 b.2) = true
   ·rw [if_pos ha] at ho; exact ho.taken (kd0_taken (by rw [h5]; decide)).1
   ·rw [if_neg ha] at ho
    have ht3 : Taken b.2 (b.2.1, true) := ⟨List.suffix_refl _, fun _ => rfl⟩
    exact ho.taken ht3
  ·rw [if_neg h5] at ho; exact ho
 have hb' : (if tx0 st = ⟨#[123]⟩ then ((E' (lift g m (next st))).1, markS 125 (E' (lift g m (next st))).2) else ([], lift g m (next st))) = (b.1, lift g m b.2) := by
  rw [hbd] at hob ⊢
  by_cases h : tx0 st = ⟨#[123]⟩
  ·rw [if_pos h] at hob ⊢
   rw [if_pos h]
   simp only [] at hob ⊢
   rw [hS (next st) hn hn' (hob.taken (markS_taken _ _))]
   simp only []
   rw [mark_lift hg hob]
  ·rw [if_neg h, if_neg h]
 rw [hb']
 simp only []
 by_cases h5 : kd0 b.2 = 5
 ·rw [if_pos ((kd_lift hg hob 5 (by decide) (by decide)).2 h5), if_pos h5]
  obtain ⟨u1, u2, u3⟩ := tx_lift hg (m := m) (show kd0 b.2 ≠ 0 by rw [h5]; decide)
  simp only [u1, u3]
  by_cases ha : advOk advs (tx0 b.2) = true
  ·rw [if_pos ha, if_pos ha]
  ·rw [if_neg ha, if_neg ha]; rfl
 ·rw [if_neg (fun e => h5 ((kd_lift hg hob 5 (by decide) (by decide)).1 e)), if_neg h5]
theorem atom_lift (st : PSt) (hm : meas st < n + 1) (hm' : meas (lift g m st) < n' + 1) (ho : OkL m (atomS E st).2) :
  atomS E' (lift g m st) = ((atomS E st).1, lift g m (atomS E st).2) := by
 have hos : OkL m st := ho.taken (atomS_fine E n hE st hm).1.taken
 unfold atomS at ho ⊢
 by_cases h1 : kd0 st = 1
 ·have hk : kd0 st ≠ 0 := by rw [h1]; decide
  rw [if_pos h1] at ho ⊢
  rw [if_pos ((kd_lift hg hos 1 (by decide) (by decide)).2 h1)]
  have hl := lit_lift hg (m := m) st.1 [] ho
  have e : (lift g m st).1 = st.1.map g ++ m := rfl
  rw [e, hl]
 ·rw [if_neg h1] at ho ⊢
  rw [if_neg (fun e => h1 ((kd_lift hg hos 1 (by decide) (by decide)).1 e))]
  by_cases h2 : kd0 st = 2
  ·have hk : kd0 st ≠ 0 := by rw [h2]; decide
   rw [if_pos h2, if_pos ((kd_lift hg hos 2 (by decide) (by decide)).2 h2)]
   obtain ⟨t1, t2, t3⟩ := tx_lift hg (m := m) hk
   rw [t1, t3]
  ·rw [if_neg h2] at ho ⊢
   rw [if_neg (fun e => h2 ((kd_lift hg hos 2 (by decide) (by decide)).1 e))]
   have hmk : OkL m (markS 40 st) := by
    by_cases h3 : (markS 40 st).2 = true
    ·rw [if_pos h3] at ho; exact ho
    ·rw [if_neg h3] at ho
     have hM : isM 40 st = true := by
      unfold markS at h3
      by_cases h : isM 40 st = true
      ·exact h
      ·rw [if_neg h] at h3; exact absurd rfl h3
     have he : markS 40 st = next st := by unfold markS; rw [if_pos hM]
     have hk : kd0 st ≠ 0 := by rw [isM_kd hM]; decide
     obtain ⟨hn, hb, hms⟩ := meas_next hk hm
     rw [he] at ho ⊢
     exact ho.taken ((hE _ hn).taken.trans (markS_taken _ _))
   rw [mark_lift hg hmk]
   have e2 : (lift g m (markS 40 st)).2 = (markS 40 st).2 := rfl
   rw [e2]
   by_cases h3 : (markS 40 st).2 = true
   ·rw [if_pos h3, if_pos h3]
   ·rw [if_neg h3] at ho ⊢
    rw [if_neg h3]
    have hM : isM 40 st = true := by
     unfold markS at h3
     by_cases h : isM 40 st = true
     ·exact h
     ·rw [if_neg h] at h3; exact absurd rfl h3
    have he : markS 40 st = next st := by unfold markS; rw [if_pos hM]
    have hk : kd0 st ≠ 0 := by rw [isM_kd hM]; decide
    obtain ⟨hn, hb, hms⟩ := meas_next hk hm
    have hn' := next_lift_meas hg (m := m) hk hm'
    rw [he] at ho ⊢
    rw [hS _ hn hn' (ho.taken (markS_taken _ _))]
    simp only []
    rw [mark_lift hg ho]
theorem idx_lift : ∀ (k k' : Nat) (l : List Nn) (st : PSt), meas st < n + 1 → meas (lift g m st) < n' + 1 → st.1.length ≤ k → (lift g m st).1.length ≤ k' → OkL m (idxS E k l st).2 →
  idxS E' k' l (lift g m st) = ((idxS E k l st).1, lift g m (idxS E k l st).2) := by
 intro k
 induction k with
 | zero =>
  intro k' l st hm hm' hk hk' ho
  have hi : isM 91 st = false := by
   rw [← Bool.not_eq_true]
   intro h
   have := (kd0_taken (show kd0 st ≠ 0 by rw [isM_kd h]; decide)).2
   omega
  simp only [idxS] at ho ⊢
  cases k' with
  | zero => rfl
  | succ k' =>
   simp only [idxS]
   rw [isM_lift hg ho 91 (by decide), hi, if_neg (by decide)]
 | succ k ih =>
  intro k' l st hm hm' hk hk' ho
  have hos : OkL m st := ho.taken (idxS_fine E n hE (k + 1) l st hm).1
  simp only [idxS] at ho ⊢
  by_cases h : isM 91 st = true
  ·have hkd : kd0 st ≠ 0 := by rw [isM_kd h]; decide
   obtain ⟨hn, hb, hms⟩ := meas_next hkd hm
   have hn' := next_lift_meas hg (m := m) hkd hm'
   obtain ⟨t1, t2, t3⟩ := tx_lift hg (m := m) hkd
   obtain ⟨_, hlen⟩ := kd0_taken hkd
   have hlen' : (next (lift g m st)).1.length + 1 = (lift g m st).1.length := (kd0_taken (by rw [t2]; exact hkd)).2
   obtain ⟨k', rfl⟩ : ∃ j, k' = j + 1 := ⟨k' - 1, by omega⟩
   simp only [idxS]
   rw [if_pos h] at ho ⊢
   rw [isM_lift hg hos 91 (by decide), if_pos h, t3]
   have hf := hE _ hn
   have hmk := markS_taken 93 (E (next st)).2
   have hm2 : meas (markS 93 (E (next st)).2) < n + 1 := by have := meas_taken (hf.taken.trans hmk) hn; omega
   have hok : OkL m (markS 93 (E (next st)).2) := ho.taken (idxS_fine E n hE k _ _ hm2).1
   rw [hS _ hn hn' (hok.taken hmk)]
   simp only []
   rw [mark_lift hg hok]
   have htk := lift_taken g m (hf.taken.trans hmk)
   refine ih k' _ _ hm2 (by have := meas_taken htk hn'; omega) ?_ ?_ ho
   ·have := (hf.taken.trans hmk).len; omega
   ·have := htk.len
    rw [t3] at hlen'
    omega
  ·rw [if_neg h] at ho ⊢
   cases k' with
   | zero => rfl
   | succ k' =>
    simp only [idxS]
    rw [isM_lift hg hos 91 (by decide), if_neg h]
theorem term_lift (st : PSt) (hm : meas st < n + 1) (hm' : meas (lift g m st) < n' + 1) (ho : OkL m (termS E st).2) :
  termS E' (lift g m st) = ((termS E st).1, lift g m (termS E st).2) := by
 unfold termS at ho ⊢
 have hf := (atomS_fine E n hE st hm).1
 have hma : meas (atomS E st).2 < n + 1 := meas_taken hf.taken hm
 have hoa : OkL m (atomS E st).2 := ho.taken (idxS_fine E n hE _ _ _ hma).1
 rw [atom_lift hg hE hS st hm hm' hoa]
 exact idx_lift hg hE hS _ _ _ _ hma (meas_taken (lift_taken g m hf.taken) hm') (Nat.le_refl _) (Nat.le_refl _) ho
theorem exprB_lift (st : PSt) (hm : meas st < n + 1) (hm' : meas (lift g m st) < n' + 1) (ho : OkL m (exprB E st).2) :
  exprB E' (lift g m st) = ((exprB E st).1, lift g m (exprB E st).2) := by
 have hos : OkL m st := ho.taken (exprB_fine E n hE st hm).taken
 unfold exprB at ho ⊢
 rw [verbal_lift hg hos]
 by_cases h1 : verbal st = true
 ·rw [if_pos h1] at ho ⊢
  rw [if_pos h1]
  obtain ⟨v1, v2, v3⟩ := verbS_fine E n hE 3 oneB st h1 hm
  have hov : OkL m (verbS E 3 oneB st).2.2 := OkL.taken (hE _ v3).taken ho
  have hk : kd0 st ≠ 0 := by rcases verbal_kd h1 with h | h | h <;> rw [h] <;> decide
  have hv3 : meas (lift g m (verbS E 3 oneB st).2.2) < n' := by
   have hl := verb_lift hg hE hS 3 oneB st h1 hm hm' hov
   have hlm : ∃ a : PSt, Taken (lift g m (next st)) a ∧ a = lift g m (verbS E 3 oneB st).2.2 := ⟨_, lift_taken g m (verbS_next E n hE 3 oneB st h1 hm), rfl⟩
   obtain ⟨a, ha, rfl⟩ := hlm
   exact meas_taken ha (next_lift_meas hg hk hm')
  rw [verb_lift hg hE hS 3 oneB st h1 hm hm' hov]
  exact exprV_lift hS _ _ v3 hv3 ho
 ·rw [if_neg h1] at ho ⊢
  rw [if_neg h1]
  have hf := termS_fine E n hE st hm
  have hmt := meas_taken hf.taken hm
  have hot : OkL m (termS E st).2 := by
   by_cases h2 : verbal (termS E st).2 = true
   ·rw [if_pos h2] at ho
    obtain ⟨v1, v2, v3⟩ := verbS_fine E n hE 4 twoB (termS E st).2 h2 hmt
    exact OkL.taken (v1.trans (hE _ v3).taken) ho
   ·rw [if_neg h2] at ho; exact ho
  have hmt' : meas (lift g m (termS E st).2) < n' + 1 := meas_taken (lift_taken g m hf.taken) hm'
  rw [term_lift hg hE hS st hm hm' hot]
  simp only []
  rw [verbal_lift hg hot]
  by_cases h2 : verbal (termS E st).2 = true
  ·rw [if_pos h2] at ho ⊢
   rw [if_pos h2]
   obtain ⟨v1, v2, v3⟩ := verbS_fine E n hE 4 twoB (termS E st).2 h2 hmt
   have hov : OkL m (verbS E 4 twoB (termS E st).2).2.2 := OkL.taken (hE _ v3).taken ho
   have hk : kd0 (termS E st).2 ≠ 0 := by rcases verbal_kd h2 with h | h | h <;> rw [h] <;> decide
   have hv3 : meas (lift g m (verbS E 4 twoB (termS E st).2).2.2) < n' :=
    meas_taken (lift_taken g m (verbS_next E n hE 4 twoB (termS E st).2 h2 hmt)) (next_lift_meas hg hk hmt')
   rw [verb_lift hg hE hS 4 twoB (termS E st).2 h2 hmt hmt' hov]
   exact exprV_lift hS _ _ v3 hv3 ho
  ·rw [if_neg h2, if_neg h2]
end
theorem exprS_lift {g : Tt → Tt} (hg : Plain g) (m : List Tt) : ∀ n n', SimE g m (exprS n) (exprS n') n n' := by
 intro n
 induction n with
 | zero => intro n' st h; omega
 | succ n ih =>
  intro n' st hm hm' ho
  obtain ⟨n', rfl⟩ : ∃ j, n' = j + 1 := ⟨n' - 1, by omega⟩
  exact exprB_lift hg (exprS_good n) (ih n') st hm hm' ho
end Go.Proofs.Ytdelccahgchadaa
end
